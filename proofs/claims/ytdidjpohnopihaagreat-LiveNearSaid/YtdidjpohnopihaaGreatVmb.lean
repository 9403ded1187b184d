/- Contracts of the program's functions over data, and the plain laws that they meet (part 2). No condition. -/
import Derived.Test.YtdidjpohnopihaaGreatVma
import Derived.WalkKit
import Derived.WalkSpells
import Derived.WalkLawsBesides
import Derived.Lib.Hide
import Derived.Deep.RegionHeld3
import Derived.Maps.AppendAt
import Derived.KernelRfl
import Derived.Lib.AppendStr
import Derived.Orders
import Derived.LoopTactic
import Derived.Laws.CopyRow
import Derived.Laws.Cells
import Derived.OrdersIn
import Derived.Laws.Externs
import Derived.TacticsIn
import Derived.RangeFuncLeaves
import Derived.RangeFuncRecord
import Derived.Great.BuildSlice
import Derived.Laws.ResultCell
import Derived.Laws.StructEq
import Derived.Laws.MakeOwn
import Derived.Lib.AppendZerosOnto
set_option linter.unusedVariables false
set_option linter.unusedSimpArgs false
set_option maxRecDepth 100000
set_option maxHeartbeats 4000000
section
section
namespace Go.Proofs.YtdidjpohnopihaaGreat.Sm
open Go.RowKit
theorem _root_.Go.Proofs.YtdidjpohnopihaaGreat.Kp.setRow' {S:Nat->Prop} {a w:World} (h:Kp S a w) {g:Nat} (hg:S g) (cs:Array Value):Kp S a (w.setRow g cs) :=
 ⟨h.os,h.tape,h.output,by simpa [World.setRow] using h.size,fun k hk hn=>(setRow_other w g k cs (fun e=>hn (e ▸ hg))).trans (h.block k hk hn)⟩
inductive CA (σ:Sto):AV->List AV->List Nat->Prop where
 | ro (cs:List AV):CA σ (.ro cs) cs []
 | own {id ep off t:Nat} {cs:List AV} (h:σ id=⟨ep,some (.box t cs)⟩):CA σ (.own id ep off) (cs.drop off) [id]
 | el {id ep k j t m:Nat} {els:List (List AV)} {cs:List AV} (h:σ id=⟨ep,some (.row t m els)⟩) (hk:els[k]?=some cs):CA σ (.el id ep k j) (cs.drop j) [id]
theorem CA.congr {σ σ':Sto} {x:AV} {cs:List AV} {l:List Nat} (h:CA σ x cs l) (hl:∀id∈l,σ' id=σ id):CA σ' x cs l:=by
 cases h with
 | ro cs=>exact .ro cs
 | own h=>exact .own ((hl _ (by simp)).trans h)
 | el h hk=>exact .el ((hl _ (by simp)).trans h) hk
section
variable {W : World} {F : Nat -> Prop} {μ : Mu} {σ : Sto} {v : Value} {id ep : Nat}
theorem Rel.own' {off:Nat} (h:Rel W F μ σ (.own id ep off) v):ep<=(σ id).ep/\v.oneCell'=true/\∀bd,σ id=⟨ep,some bd⟩->∃b c,μ id=some (b,c)/\v = .pointer (some ⟨b,off,none⟩):=by
 cases h with
 | pure h=>cases h
 | own _ _ _ _ h1 h2 h3=>exact ⟨h1,h2,h3⟩
theorem Rel.el' {k j:Nat} (h:Rel W F μ σ (.el id ep k j) v):ep<=(σ id).ep/\v.oneCell'=true/\∀t m els,σ id=⟨ep,some (.row t m els)⟩->∃b c,μ id=some (b,c)/\v = .pointer (some ⟨b,k*m+j,none⟩):=by
 cases h with
 | pure h=>cases h
 | el _ _ _ _ _ h1 h2 h3=>exact ⟨h1,h2,fun t m els h=>h3 _ _ _ h rfl⟩
theorem Rel.elG {k j:Nat} (h:Rel W F μ σ (.el id ep k j) v):ep<=(σ id).ep/\v.oneCell'=true/\∀bd m len,σ id=⟨ep,some bd⟩->bd.rowL=some (m,len)->∃b c,μ id=some (b,c)/\v = .pointer (some ⟨b,k*m+j,none⟩):=by
 cases h with
 | pure h=>cases h
 | el _ _ _ _ _ h1 h2 h3=>exact ⟨h1,h2,h3⟩
theorem Rel.row' {off n:Nat} (h:Rel W F μ σ (.row id ep off n) v):ep<=(σ id).ep/\v.oneCell'=true/\∀t m els,σ id=⟨ep,some (.row t m els)⟩->RowV (μ id) m off n els.length v:=by
 cases h with
 | pure h=>cases h
 | row _ _ _ _ _ h1 h2 h3=>exact ⟨h1,h2,fun t m els h=>h3 _ _ _ h rfl⟩
end
theorem CA.cells {W : World} {F : Nat -> Prop} {μ : Mu} {σ : Sto} (hi : Inv W F μ σ) {x : AV} {cs : List AV} {l : List Nat} (h : CA σ x cs l) {v : Value} (hx : Rel W F μ σ x v) :
  ∃b off,v = .pointer (some ⟨b,off,none⟩)/\∀(j:Nat) (y:AV),cs[j]?=some y->y.one=true/\∃u,W.cell? ⟨b,off+j,none⟩=some u/\Rel W F μ σ y u:=by
 cases h with
 | ro cs =>
  cases hx.ro' with
  | ro _ b off cell hF hb h1 hr hw=>exact ⟨b,off,rfl,fun j y hj=>⟨h1 j y hj,_,hw j y hj,.pure (hr j y hj)⟩⟩
 | own h =>
   obtain ⟨he,h1,hv⟩:=Rel.own' hx
   obtain ⟨b,c,hp,rfl⟩:=hv _ h
   obtain ⟨b',c',vs,hp',hh,hl,hr⟩:=hi.body _ _ _ h
   obtain ⟨rfl,rfl⟩:b=b'/\c=c':=by rw [hp] at hp';simpa using hp'
   refine ⟨b,_,rfl,fun j y hj=>?_⟩
   rw [uD] at hj
   have hlt:=(qC.1 hj).1
   have hu:=qA (l:=vs) (by rw [hl];exact hlt)
   obtain ⟨g1,g2⟩:=hr _ _ _ hj hu
   exact ⟨g1,_,by rw [cell_of_row _ b _ _ _ (0,0) hh,uG];exact hu,g2⟩
 | el h hk =>
   obtain ⟨he,h1,hv⟩:=Rel.el' hx
   obtain ⟨b,c,hp,rfl⟩:=hv _ _ _ h
   rcases hi.body _ _ _ h with ⟨hn,rfl⟩ | ⟨b',cap,cur,hp',hh,g1,g2,g3,g4,g5⟩
   ·simp at hk
   ·obtain ⟨rfl,rfl⟩:b=b'/\c=cap:=by rw [hp] at hp';simpa using hp'
    refine ⟨b,_,rfl,fun q y hq=>?_⟩
    rw [uD] at hq
    obtain ⟨q1,u,q2,q3⟩:=g5 _ _ _ _ hk hq
    exact ⟨q1,u,by rw [cell_of_row _ b _ _ _ (0,0) hh,Nat.add_assoc];exact q2,.pure q3⟩
def ovw:List AV->Nat->List AV->List AV
 | cs,_,[]=>cs
 | [],_,_::_=>[]
 | _::cs,0,n::ns=>n::ovw cs 0 ns
 | c::cs,k+1,n::ns=>c::ovw cs k (n::ns)
theorem ovw_length:∀(cs:List AV) (k:Nat) (ns:List AV),(ovw cs k ns).length=cs.length
 | cs,_,[]=>by cases cs <;> rfl
 | [],_,_::_=>rfl
 | _::cs,0,_::ns=>by simp [ovw,ovw_length cs 0 ns]
 | _::cs,k+1,n::ns=>by simp [ovw,ovw_length cs k (n::ns)]
theorem ovw_get:∀(cs:List AV) (k:Nat) (ns:List AV) (j:Nat),k+ns.length<=cs.length->(ovw cs k ns)[j]?=if k<=j/\j<k+ns.length then ns[j - k]? else cs[j]?
 | cs,k,[],j,_=>by
  rw [if_neg (by simp only [List.length_nil];omega)]
  cases cs <;> rfl
 | [],_,_::_,_,h=>by simp at h
 | c::cs,0,n::ns,0,h=>by simp [ovw]
 | c::cs,0,n::ns,j+1,h=>by
  have:=ovw_get cs 0 ns j (by simp at h ⊢;omega)
  simp only [ovw,uS,this,qR]
  by_cases e:j<ns.length
  ·rw [if_pos (by omega),if_pos (by omega)]
   rfl
  ·rw [if_neg (by omega),if_neg (by omega)]
 | c::cs,k+1,n::ns,0,h=>by simp [ovw]
 | c::cs,k+1,n::ns,j+1,h=>by
  have:=ovw_get cs k (n::ns) j (by simp at h ⊢;omega)
  simp only [ovw,uS,this]
  by_cases e:k<=j/\j<k+(n::ns).length
  ·rw [if_pos e,if_pos (by omega),show j+1 - (k+1)=j - k by omega]
  ·rw [if_neg e,if_neg (by omega)]
def AV.cells:AV->List AV
 | .agg cs=>cs
 | x=>[x]
theorem cells_rel {W:World} {F:Nat->Prop} {μ:Mu} {σ:Sto} {x:AV} {v:Value} (h:Rel W F μ σ x v) (h1:∀y∈x.cells,y.one=true):v.cells.toList.length=x.cells.length/\∀(j:Nat) (y:AV) (u:Value),x.cells[j]?=some y->v.cells.toList[j]?=some u->y.one=true/\Rel W F μ σ y u:=by
 cases x with
 | agg cs =>
  obtain ⟨vs,rfl,hl,g1,hr⟩:=h.agg'
  exact ⟨by simpa [Value.cells,AV.cells] using hl,fun j y u hj hu=>⟨g1 j y hj,hr j y u hj (by simpa [Value.cells] using hu)⟩⟩
 | _ =>
  have hv:=h.one (h1 _ (by simp [AV.cells]))
  have e:v.cells.toList=[v]:=by
   cases v <;> first | rfl | (simp [Value.oneCell'] at hv;done)
  rw [e]
  refine ⟨rfl,fun j y u hj hu=>?_⟩
  cases j with
  | zero =>
   obtain rfl:=qB hj
   obtain rfl:=qB hu
   exact ⟨h1 _ (by simp [AV.cells]),h⟩
  | succ j=>simp [AV.cells] at hj
theorem ca_ptr {W:World} {b off j:Nat}:(⟨b,off,none⟩:Addr).add j=⟨b,off+j,none⟩:=by
 unfold Addr.add
 split <;> simp_all
section
variable {P : Program} {N : Nat} {o : Oper} {s : St}
def ldA (ti:TI) (cs:List AV):Option AV:=cond ti.k.ag (cond (Nat.ble ti.n cs.length) (some (.agg (cs.take ti.n))) none) cs.head?
theorem op_load {t:TypeId} {ti:TI} {p:Operand} {cs:List AV} {l:List Nat} {r:AV} (ho:o.op = .load t p) (ht:TiOk P t ti) (hp:CA s.σ (s.ev p) cs l) (hr:ldA ti cs=some r):OpLoc P N o s ⟨r,[],l⟩:=by
 refine oploc_val l _ fun s' W F μ a h1 h2 hs=>?_
 have ep:=hs.ev p
 rw [h1 p (by rw [ho];simp [Op.operands])] at ep
 obtain ⟨b,off,hv,hc⟩:=(hp.congr h2).cells hs.inv ep
 unfold ldA at hr
 cases hag:ti.k.ag with
 | true =>
  rw [hag,cond_true] at hr
  cases hle:Nat.ble ti.n cs.length with
  | false=>rw [hle] at hr;cases hr
  | true =>
   have hn:ti.n<=cs.length:=qV hle
   rw [hle,cond_true] at hr
   obtain rfl:=qB hr
   let f:Nat->Value:=fun j=>(W.cell? ⟨b,off+j,none⟩).getD undef
   have get:∀(j:Nat) (y:AV),cs[j]?=some y->W.cell? ⟨b,off+j,none⟩=some (f j)/\y.one=true/\Rel W F μ s'.σ y (f j):=fun j y hj=>by
    obtain ⟨g1,u,g2,g3⟩:=hc j y hj
    have:f j=u:=by simp only [f,g2];rfl
    exact ⟨by rw [this];exact g2,g1,by rw [this];exact g3⟩
   have hrun:(loadCells ⟨b,off,none⟩ ti.n).run P W = .ok ((List.range ti.n).map f).toArray W:=run_loadCells W _ ti.n f fun j hj=>by
    rw [ca_ptr (W:=W)]
    exact (get j _ (qA (by omega))).1
   refine ⟨.agg ((List.range ti.n).map f).toArray,?_,.agg _ _ ?_ (fun j x hj=>?_) (fun j x v hj hv'=>?_)⟩
   ·simp only [execOp,ho,hv,Instr.loadAt,Instr.sureAddr,loadVar,Sem.run_bind,Sem.run_pure,Result.andThen_ok,ht.agg,hag,if_true,ht.size,hrun]
   ·simp;omega
   ·rw [uB] at hj
    split at hj
    ·exact (get j x hj).2.1
    ·cases hj
   ·rw [uB] at hj
    split at hj
    ·rename_i hlt
     have:f j=v:=by simpa [hlt] using hv'
     rw [<- this]
     exact (get j x hj).2.2
    ·cases hj
 | false =>
  rw [hag,cond_false,List.head?_eq_getElem?] at hr
  obtain ⟨g1,u,g2,g3⟩:=hc 0 _ hr
  refine ⟨u,?_,g3⟩
  have hrun:(load ⟨b,off,none⟩).run P W = .ok u W:=by simp [load,Sem.run,show W.cell? ⟨b,off,none⟩=some u from g2]
  simp only [execOp,ho,hv,Instr.loadAt,Instr.sureAddr,loadVar,Sem.run_bind,Sem.run_pure,Result.andThen_ok,ht.agg,hag,Bool.false_eq_true,if_false,hrun]
def fldA (off:Nat):AV->Option AV
 | .ro cs=>some (.ro (cs.drop off))
 | .own id ep o=>some (.own id ep (o+off))
 | .el id ep k j=>some (.el id ep k (j+off))
 | _=>none
theorem ptr_add {W:World} {F:Nat->Prop} {μ:Mu} {σ:Sto} {x y:AV} {v:Value} {off:Nat} (hx:Rel W F μ σ x v) (hy:fldA off x=some y) {a:Addr} (hv:v = .pointer (some a)):Rel W F μ σ y (.pointer (some (a.add off))):=by
 subst hv
 cases x <;> simp only [fldA,qU,reduceCtorEq] at hy
 all_goals subst hy
 ·generalize hq:Value.pointer (some a)=q at hx
  cases hx.ro' with
  | ro cs b o cell hF hb h1 hr hw =>
   obtain rfl:a=⟨b,o,none⟩:=by simpa using hq
   rw [ca_ptr (W:=W)]
   refine .pure (.ro _ b (o+off) (fun j=>cell (off+j)) hF hb (fun j x hj=>?_) (fun j x hj=>?_) (fun j x hj=>?_))
   ·rw [uD] at hj;exact h1 _ _ hj
   ·rw [uD] at hj;exact hr _ _ hj
   ·rw [uD] at hj;rw [Nat.add_assoc];exact hw _ _ hj
 ·obtain ⟨he,h1,h⟩:=Rel.own' hx
  refine .own _ _ _ _ he rfl fun bd hbd=>?_
  obtain ⟨b,c,hp,e⟩:=h bd hbd
  injection e with e
  injection e with e
  rw [e]
  exact ⟨b,c,hp,by rw [ca_ptr (W:=W)]⟩
 ·obtain ⟨he,h1,h⟩:=Rel.elG hx
  refine .el _ _ _ _ _ he rfl fun bd m len hbd hL=>?_
  obtain ⟨b,c,hp,e⟩:=h bd m len hbd hL
  injection e with e
  injection e with e
  rw [e]
  exact ⟨b,c,hp,by rw [ca_ptr (W:=W),Nat.add_assoc]⟩
theorem op_nilCheck {x:Operand} {cs:List AV} {l:List Nat} (ho:o.op = .nilCheck x) (hx:CA s.σ (s.ev x) cs l):OpLoc P N o s ⟨s.ev x,[],l⟩:=by
 refine oploc_val l _ fun s' W F μ a h1 h2 hs=>?_
 have ex:=hs.ev x
 rw [h1 x (by rw [ho];simp [Op.operands])] at ex
 obtain ⟨b,off,hv,_⟩:=(hx.congr h2).cells hs.inv ex
 exact ⟨_,by simp only [execOp,ho,hv,Sem.run_pure],hv ▸ ex⟩
theorem op_nilCheckF {x:Operand} {f:FuncId} {fs cs:List AV} (ho:o.op = .nilCheck x) (hx:s.ev x = .fn f fs cs):OpLoc P N o s ⟨s.ev x,[],[]⟩:=by
 refine oploc_val [] _ fun s' W F μ a h1 h2 hs=>?_
 have ex:=hs.ev x
 rw [h1 x (by rw [ho];simp [Op.operands])] at ex
 have ex':=ex
 rw [hx] at ex'
 obtain ⟨_,_,hv,_⟩:=ex'.fn'
 exact ⟨_,by simp only [execOp,ho,hv,Sem.run_pure],hv ▸ ex⟩
theorem op_fieldAddr {t f:Nat} {ti:TI} {fs:List (Nat × Nat)} {p:Operand} {ft off:Nat} {fi:TI} {cs:List AV} {l:List Nat} {r:AV} (ho:o.op = .fieldAddr t p f) (ht:TiOk P t ti) (hk:ti.k = .strct fs) (hf:fs[f]?=some (ft,off)) (hft:TiOk P ft fi) (hn:(fi.n == 0)=false)
  (hp:CA s.σ (s.ev p) cs l) (hr:fldA off (s.ev p)=some r):OpLoc P N o s ⟨r,[],l⟩:=by
 refine oploc_val l _ fun s' W F μ a h1 h2 hs=>?_
 have ep:=hs.ev p
 rw [h1 p (by rw [ho];simp [Op.operands])] at ep
 obtain ⟨b,o',hv,_⟩:=(hp.congr h2).cells hs.inv ep
 refine ⟨_,?_,ptr_add ep hr hv⟩
 obtain ⟨fs',hu,hm⟩:=ht.strct hk
 obtain ⟨fd,hfd,h3,h4⟩:∃fd,fs'[f]?=some fd/\fd.type=ft/\fd.offset=off:=by
  rw [<- hm,qE] at hf
  cases hq:fs'.toList[f]? with
  | none=>rw [hq] at hf;cases hf
  | some fd =>
   rw [hq] at hf
   simp only [Option.map_some,qU,qZ] at hf
   exact ⟨fd,by simpa using hq,hf⟩
 have hn':¬fi.n=0:=by simpa using hn
 have hz:(sizeOf fd.type).run P W = .ok fi.n W:=by rw [h3];exact hft.size W
 simp only [execOp,ho,Instr.fieldAt,Sem.run_bind,run_underlying hu,Result.andThen_ok,hfd,hv,Instr.sureAddr,Sem.run_pure,fieldPlace,hz,hn',if_false,h4]
theorem op_indexA {t n e k:Nat} {ti ei:TI} {x i:Operand} {kd:IntKind} {cs:List AV} {l:List Nat} {r:AV} (ho:o.op = .indexAddr t x i) (ht:TiOk P t ti) (hk:ti.k = .arr n e) (he:TiOk P e ei) (hi:s.ev i = .i kd (k:Int)) (hlt:k<n)
  (hp:CA s.σ (s.ev x) cs l) (hr:fldA (k*ei.n) (s.ev x)=some r):OpLoc P N o s ⟨r,[],l⟩:=by
 refine oploc_val l _ fun s' W F μ a h1 h2 hs=>?_
 have ep:=hs.ev x
 rw [h1 x (by rw [ho];simp [Op.operands])] at ep
 have ei':=hs.ev i
 rw [h1 i (by rw [ho];simp [Op.operands]),hi] at ei'
 obtain ⟨b,o',hv,_⟩:=(hp.congr h2).cells hs.inv ep
 refine ⟨_,?_,ptr_add ep hr hv⟩
 have hcond:(0:Int)<=(k:Int)/\(k:Int)<(n:Int):=by omega
 simp only [execOp,ho,Instr.indexAt,hv,ei'.i',asIntOf,Sem.run_bind,Sem.run_pure,Result.andThen_ok,run_underlying (ht.array hk),Instr.sureAddr,if_pos hcond,he.size,vU]
def prtA (ti:TI) (off:Nat) (cs:List AV):Option AV:=cond ti.k.ag (cond (Nat.ble (off+ti.n) cs.length) (some (.agg ((cs.drop off).take ti.n))) none) cs[off]?
theorem part_ok {t:Nat} {ti:TI} (ht:TiOk P t ti) {W:World} {F:Nat->Prop} {μ:Mu} {σ:Sto} {cs:List AV} {vs:List Value} (hl:vs.length=cs.length) (h1:∀(j:Nat) (x:AV),cs[j]?=some x->x.one=true)
  (hp:∀(j:Nat) (x:AV) (v:Value),cs[j]?=some x->vs[j]?=some v->Rel W F μ σ x v) {off:Nat} {r:AV} (hr:prtA ti off cs=some r):∃v,(part t vs.toArray off).run P W = .ok v W/\Rel W F μ σ r v:=by
 unfold prtA at hr
 cases hag:ti.k.ag with
 | true =>
  rw [hag,cond_true] at hr
  cases hle:Nat.ble (off+ti.n) cs.length with
  | false=>rw [hle] at hr;cases hr
  | true =>
   have hn:off+ti.n<=cs.length:=qV hle
   rw [hle,cond_true] at hr
   obtain rfl:=qB hr
   have he:vs.toArray.extract off (off+ti.n)=((vs.drop off).take ti.n).toArray:=by
    apply Array.toList_inj.1
    simp
   refine ⟨.agg ((vs.drop off).take ti.n).toArray,?_,.agg _ _ (by simp [hl]) (fun j x hj=>?_) (fun j x v hj hv=>?_)⟩
   ·simp only [part,Sem.run_bind,ht.agg,hag,Result.andThen_ok,if_true,ht.size,Sem.run_pure,he]
   ·rw [uB,uD] at hj
    split at hj
    ·exact h1 _ _ hj
    ·cases hj
   ·rw [uB,uD] at hj hv
    split at hj
    ·rename_i hlt
     rw [if_pos hlt] at hv
     exact hp _ _ _ hj hv
    ·cases hj
 | false =>
  rw [hag,cond_false] at hr
  obtain ⟨v,hv⟩:∃v,vs[off]?=some v:=⟨_,qA (by have:=(qC.1 hr).1;omega)⟩
  refine ⟨v,?_,hp _ _ _ hr hv⟩
  simp only [part,Sem.run_bind,ht.agg,hag,Result.andThen_ok,Bool.false_eq_true,if_false,uG,hv,Sem.run_pure]
theorem op_field {t f:Nat} {ti:TI} {fs:List (Nat × Nat)} {x:Operand} {ft off:Nat} {fi:TI} {cs:List AV} {r:AV} (ho:o.op = .field t x f) (ht:TiOk P t ti) (hk:ti.k = .strct fs) (hf:fs[f]?=some (ft,off)) (hft:TiOk P ft fi)
  (hx:s.ev x = .agg cs) (hr:prtA fi off cs=some r):OpLoc P N o s ⟨r,[],[]⟩:=by
 refine oploc_val [] _ fun s' W F μ a h1 h2 hs=>?_
 have ex:=hs.ev x
 rw [h1 x (by rw [ho];simp [Op.operands]),hx] at ex
 obtain ⟨vs,hv,hl,g1,g2⟩:=ex.agg'
 obtain ⟨v,hrun,hrel⟩:=part_ok hft (W:=W) hl g1 g2 hr
 obtain ⟨fs',hu,hm⟩:=ht.strct hk
 obtain ⟨fd,hfd,h3,h4⟩:∃fd,fs'[f]?=some fd/\fd.type=ft/\fd.offset=off:=by
  rw [<- hm,qE] at hf
  cases hq:fs'.toList[f]? with
  | none=>rw [hq] at hf;cases hf
  | some fd =>
   rw [hq] at hf
   simp only [Option.map_some,qU,qZ] at hf
   exact ⟨fd,by simpa using hq,hf⟩
 refine ⟨v,?_,hrel⟩
 rw [<- h3,<- h4] at hrun
 simp only [execOp,ho,Instr.field,Sem.run_bind,run_underlying hu,Result.andThen_ok,hfd,hv,asAgg,Sem.run_pure,hrun]
theorem oploc_new {id : Nat} {bd : Body} {r : AV} (rd : List Nat) (h : ∀ (s' : St) W F μ a, (∀ y ∈ o.op.operands.toList, s'.ev y = s.ev y) -> (∀ i ∈ rd, s'.σ i = s.σ i) -> s'.σ id = s.σ id -> RS N W F μ s' a ->
   ∃(v:Value) (cs:List Value) (t c:Nat),(execOp a.eval o).run P W = .ok (.value v) (W.alloc (.cells cs.toArray t)) /\
    ∀μ' σ',Stp W F μ s'.σ (W.alloc (.cells cs.toArray t)) F μ' σ'->σ' id=⟨(s.σ id).ep+1,some bd⟩->μ' id=some (W.heap.size,c) ->
     BodyRel (W.alloc (.cells cs.toArray t)) F μ' σ' (some (W.heap.size,c)) bd/\Rel (W.alloc (.cells cs.toArray t)) F μ' σ' r v) :
  OpLoc P N o s ⟨r,[(id,⟨(s.σ id).ep+1,some bd⟩)],rd⟩:=by
 intro s' h1 h2 h3 W F μ a hr K Q hK
 have hid:s'.σ id=s.σ id:=h3 (id,⟨(s.σ id).ep+1,some bd⟩) (by simp)
 obtain ⟨v,cs,t,c,hrun,hgo⟩:=h s' W F μ a h1 h2 hid hr
 have hk:Kp (fun b=>(s'.σ id).body.isSome=true/\∃c,μ id=some (b,c)) W (W.alloc (.cells cs.toArray t)):=(Kp.refl _ W).alloc _
 have hσ:up1 s'.σ id ⟨(s.σ id).ep+1,some bd⟩ id=⟨(s.σ id).ep+1,some bd⟩:=by rw [up1_eq,if_pos rfl]
 have hμ:upm μ id (some (W.heap.size,c)) id=some (W.heap.size,c):=by rw [upm_eq,if_pos rfl]
 obtain ⟨hs,hi⟩:=inv_turn hr.inv id (some (W.heap.size,c)) ((s.σ id).ep+1) bd hk (fun b c' e=>by
   have e':W.heap.size=b:=by simp only [qU,qZ] at e;exact e.1
   subst e'
   exact ⟨by simp,.inl (qJ _)⟩) (.inl (by rw [hid];omega)) (fun hs=>(hgo _ _ hs hσ hμ).1)
 unfold Oper.wp
 rw [hrun]
 exact hK _ F _ _ (hr.put hs hi (hgo _ _ hs hσ hμ).2) hs
theorem run_newRow' (t:Nat) (cs:Array Value) (W:World):(newRow t cs).run P W = .ok ⟨W.heap.size,0,none⟩ (W.alloc (.cells cs t)):=rfl
theorem op_box {t : Nat} {x : Operand} {cs : List AV} {id : Nat} (ho : o.op = .box t x) (hx : (s.ev x).cells = cs) (h1 : cs.all AV.one = true) :
  OpLoc P N o s ⟨.own id ((s.σ id).ep+1) 0,[(id,⟨(s.σ id).ep+1,some (.box t cs)⟩)],[]⟩:=by
 refine oploc_new [] fun s' W F μ a g1 g2 hid hs=>?_
 have ex:=hs.ev x
 rw [g1 x (by rw [ho];simp [Op.operands])] at ex
 rw [qW] at h1
 obtain ⟨hl,hp⟩:=cells_rel ex (by rw [hx];exact h1)
 rw [hx] at hl hp
 refine ⟨.pointer (some ⟨W.heap.size,0,none⟩),(a.eval x).cells.toList,t,0,?_,fun μ' σ' hst hσ hμ=>⟨⟨W.heap.size,0,_,rfl,heap_alloc_new W _,hl,fun j y v hj hv=>⟨(hp j y v hj hv).1,(hp j y v hj hv).2.stp hs.inv hst⟩⟩,?_⟩⟩
 ·have e:(a.eval x).cells.toList.toArray=(a.eval x).cells:=by simp
  simp only [execOp,ho,Instr.box,newVar,Sem.run_bind,run_newRow',Result.andThen_ok,Sem.run_pure,e]
 ·exact .own id _ 0 _ (by rw [hσ];exact qJ _) rfl fun bd hbd=>⟨W.heap.size,0,hμ,rfl⟩
theorem op_alloc {t:Nat} {ti:TI} {id:Nat} (ho:o.op = .alloc t) (ht:TiOk P t ti):OpLoc P N o s ⟨.own id ((s.σ id).ep+1) 0,[(id,⟨(s.σ id).ep+1,some (.box t ti.z)⟩)],[]⟩:=by
 refine oploc_new [] fun s' W F μ a g1 g2 hid hs=>?_
 obtain ⟨z,hz,hzs⟩:=ht.zero W
 refine ⟨.pointer (some ⟨W.heap.size,0,none⟩),z.cells.toList,t,0,?_,fun μ' σ' hst hσ hμ=>⟨⟨W.heap.size,0,_,rfl,heap_alloc_new W _,(zsOk_rel (W:=W) (F:=F) hzs).1,fun j y v hj hv=>?_⟩,?_⟩⟩
 ·have e:z.cells.toList.toArray=z.cells:=by simp
  simp only [execOp,ho,Instr.alloc,hz,newVar,Sem.run_bind,run_newRow',Result.andThen_ok,Sem.run_pure,e]
 ·have:=(zsOk_rel (W:=W.alloc (.cells z.cells.toList.toArray t)) (F:=F) hzs).2 j y v hj hv
  exact ⟨this.2,.pure this.1⟩
 ·exact .own id _ 0 _ (by rw [hσ];exact qJ _) rfl fun bd hbd=>⟨W.heap.size,0,hμ,rfl⟩
end
def AV.pu1:AV->Bool
 | .b _ | .i _ _ | .u _ | .y _ | .s _ | .raw _ | .sl _ | .ro _=>true
 | _=>false
theorem pu1_rel {W:World} {F:Nat->Prop} {μ:Mu} {σ:Sto} {x:AV} {v:Value} (h:x.pu1=true) (hx:Rel W F μ σ x v):PRel W F x v:=by
 cases hx with
 | pure h=>exact h
 | _=>simp [AV.pu1] at h
section
variable {P : Program} {N : Nat} {o : Oper} {s : St}
theorem storeVar_run {t:Nat} {ti:TI} (ht:TiOk P t ti) {b off ty:Nat} {cur:Array Value} {v:Value} {W:World} (hh:W.heap[b]?=some (.cells cur ty (0,0))) (hn:v.cells.size=ti.n) (hfit:off+ti.n<=cur.size) (h1:∀u∈v.cells.toList,u.oneCell'=true) :
  (storeVar t ⟨b,off,none⟩ v).run P W = .ok () (W.setRow b (cur.toList.take off++v.cells.toList++cur.toList.drop (off+ti.n)).toArray):=by
 have h:=run_storeCells_at P b off ty v.cells.toList 0 cur W hh (by simp only [Nat.add_zero,qL,hn];exact hfit) h1
 simp only [Nat.add_zero,qL,hn] at h
 simp only [storeVar,Sem.run_bind,ht.size,Result.andThen_ok,hn,ne_eq,not_true_eq_false,if_false,h]
theorem op_store {t ty id ep off : Nat} {ti : TI} {p x : Operand} {cs ns : List AV} (ho : o.op = .store t p x) (ht : TiOk P t ti) (hp : s.ev p = .own id ep off) (hid : s.σ id = ⟨ep, some (.box ty cs)⟩) (hx : (s.ev x).cells = ns) (h1 : ns.all AV.one = true)
  (hn:ns.length=ti.n) (hfit:off+ti.n<=cs.length):OpLoc P N o s ⟨.tup [],[(id,⟨ep,some (.box ty (ovw cs off ns))⟩)],[]⟩:=by
 intro s' g1 g2 g3 W F μ a hr K Q hK
 have hid':s'.σ id=⟨ep,some (.box ty cs)⟩:=(g3 (id,⟨ep,some (.box ty (ovw cs off ns))⟩) (by simp)).trans hid
 have ep':=hr.ev p
 rw [g1 p (by rw [ho];simp [Op.operands]),hp] at ep'
 obtain ⟨_,_,hv⟩:=Rel.own' ep'
 obtain ⟨b,c,hm,hv⟩:=hv _ hid'
 obtain ⟨b',c',vs,hm',hh,hl,hrel⟩:=hr.inv.body _ _ _ hid'
 obtain ⟨rfl,rfl⟩:b=b'/\c=c':=by rw [hm] at hm';simpa using hm'
 have ex:=hr.ev x
 rw [g1 x (by rw [ho];simp [Op.operands])] at ex
 rw [qW] at h1
 obtain ⟨hxl,hxp⟩:=cells_rel ex (by rw [hx];exact h1)
 rw [hx] at hxl hxp
 have hsz:(a.eval x).cells.size=ti.n:=by rw [<- qL,hxl,hn]
 have hone:∀u∈(a.eval x).cells.toList,u.oneCell'=true:=fun u hu=>by
  obtain ⟨j,hj⟩:=List.getElem?_of_mem hu
  obtain ⟨y,hy⟩:∃y,ns[j]?=some y:=⟨_,qA (by have:=(qC.1 hj).1;omega)⟩
  have:=hxp j y u hy hj
  exact this.2.one this.1
 have hrun:=storeVar_run ht (P:=P) hh hsz (by simp only [uP];omega) hone (off:=off)
 generalize hnew:(vs.toArray.toList.take off++(a.eval x).cells.toList++vs.toArray.toList.drop (off+ti.n))=new at hrun
 have hnl:new.length=cs.length:=by
  rw [<- hnew]
  simp only [qT,vO,uK,hxl,hn,hl]
  omega
 have hget:∀j,new[j]?=if off<=j/\j<off+ns.length then (a.eval x).cells.toList[j - off]? else vs[j]?:=fun j=>by
  rw [<- hnew,hn]
  simp only [uI]
  rw [vX,vO,hl,Nat.min_eq_left (by omega)]
  by_cases e1:j<off
  ·rw [if_pos e1,if_neg (by omega),uB,if_pos e1]
  ·rw [if_neg e1,vX,hxl,hn]
   by_cases e2:j - off<ti.n
   ·rw [if_pos e2,if_pos (by omega)]
   ·rw [if_neg e2,if_neg (by omega),uD]
    congr 1
    omega
 have hk:Kp (fun b=>(s'.σ id).body.isSome=true/\∃c,μ id=some (b,c)) W (W.setRow b new.toArray):=(Kp.refl _ W).setRow' (by exact ⟨by rw [hid'];rfl,c,hm⟩) _
 obtain ⟨hs, hi⟩ := inv_turn hr.inv id (μ id) ep (.box ty (ovw cs off ns)) hk (fun b1 c1 e => by
   rw [hm] at e
   obtain ⟨rfl,rfl⟩:b=b1/\c=c1:=by simpa using e
   exact ⟨by simpa using (hr.inv.apart b ⟨id,ep,_,c,hid',hm⟩).1,.inr ⟨by rw [hid'];rfl,c,hm⟩⟩)
  (.inr ⟨by rw [hid'],_,by rw [hid'],by simp [Body.sh,ovw_length],rfl⟩) (fun hs=>by
   refine ⟨b,c,new,hm,setRow_heap W b _ _ _ _ hh,by rw [ovw_length];exact hnl,fun j y v hj hv'=>?_⟩
   rw [ovw_get _ _ _ _ (by omega)] at hj
   rw [hget] at hv'
   split at hj
   ·rename_i e
    rw [if_pos e] at hv'
    have:=hxp _ _ _ hj hv'
    exact ⟨this.1,this.2.stp hr.inv hs⟩
   ·rename_i e
    rw [if_neg e] at hv'
    have:=hrel _ _ _ hj hv'
    exact ⟨this.1,this.2.stp hr.inv hs⟩)
 unfold Oper.wp
 have hrun':(execOp a.eval o).run P W = .ok .skip (W.setRow b new.toArray):=by
  simp only [execOp,ho,Instr.storeAt,Instr.sureAddr,hv,Sem.run_bind,Sem.run_pure,Result.andThen_ok,hrun]
 rw [hrun']
 exact hK _ F _ _ (hr.put hs hi (.pure (.tup [] [] rfl (by simp)))) hs
theorem op_storeE {t ty m id ep k j : Nat} {ti : TI} {p x : Operand} {els : List (List AV)} {cs ns : List AV} (ho : o.op = .store t p x) (ht : TiOk P t ti) (hp : s.ev p = .el id ep k j) (hid : s.σ id = ⟨ep, some (.row ty m els)⟩) (hk : els[k]? = some cs) (hx : (s.ev x).cells = ns)
  (h1:ns.all AV.one=true) (h2:ns.all AV.pu1=true) (hn:ns.length=ti.n) (hfit:j+ti.n<=cs.length):OpLoc P N o s ⟨.tup [],[(id,⟨ep,some (.row ty m (els.set k (ovw cs j ns)))⟩)],[]⟩:=by
 intro s' g1 g2 g3 W F μ a hr K Q hK
 have hid':s'.σ id=⟨ep,some (.row ty m els)⟩:=(g3 (id,⟨ep,some (.row ty m (els.set k (ovw cs j ns)))⟩) (by simp)).trans hid
 have ep':=hr.ev p
 rw [g1 p (by rw [ho];simp [Op.operands]),hp] at ep'
 obtain ⟨_,_,hv⟩:=Rel.el' ep'
 obtain ⟨b,c,hm,hv⟩:=hv _ _ _ hid'
 have hklt:k<els.length:=(qC.1 hk).1
 rcases hr.inv.body _ _ _ hid' with ⟨_,rfl⟩ | ⟨b',cap,cur,hm',hh,q1,q2,q3,q4,q5⟩
 ·simp at hk
 obtain ⟨rfl,rfl⟩:b=b'/\c=cap:=by rw [hm] at hm';simpa using hm'
 have ex:=hr.ev x
 rw [g1 x (by rw [ho];simp [Op.operands])] at ex
 rw [qW] at h1 h2
 obtain ⟨hxl,hxp⟩:=cells_rel ex (by rw [hx];exact h1)
 rw [hx] at hxl hxp
 have hsz:(a.eval x).cells.size=ti.n:=by rw [<- qL,hxl,hn]
 have hone:∀u∈(a.eval x).cells.toList,u.oneCell'=true:=fun u hu=>by
  obtain ⟨i,hi⟩:=List.getElem?_of_mem hu
  obtain ⟨y,hy⟩:∃y,ns[i]?=some y:=⟨_,qA (by have:=(qC.1 hi).1;omega)⟩
  have:=hxp i y u hy hi
  exact this.2.one this.1
 have hcm:=q4 k cs hk
 have hkm:k*m+m<=c*m:=by
  have h0:=Nat.mul_le_mul_right m (show k+1<=c by omega)
  rwa [Nat.add_mul,Nat.one_mul] at h0
 have hrun:=storeVar_run ht (P:=P) hh hsz (by omega) hone (off:=k*m+j)
 generalize hnew:(cur.toList.take (k*m+j)++(a.eval x).cells.toList++cur.toList.drop (k*m+j+ti.n))=new at hrun
 have hnl:new.length=cur.size:=by
  rw [<- hnew]
  simp only [qT,vO,uK,hxl,hn,qL]
  omega
 have hget:∀i,new[i]?=if k*m+j<=i/\i<k*m+j+ns.length then (a.eval x).cells.toList[i - (k*m+j)]? else cur[i]?:=fun i=>by
  rw [<- hnew,hn]
  simp only [uI]
  rw [vX,vO,qL,Nat.min_eq_left (by omega)]
  by_cases e1:i<k*m+j
  ·rw [if_pos e1,if_neg (by omega),uB,if_pos e1,vM]
  ·rw [if_neg e1,vX,hxl,hn]
   by_cases e2:i - (k*m+j)<ti.n
   ·rw [if_pos e2,if_pos (by omega)]
   ·rw [if_neg e2,if_neg (by omega),uD,vM]
    congr 1
    omega
 have hkp:Kp (fun b=>(s'.σ id).body.isSome=true/\∃c,μ id=some (b,c)) W (W.setRow b new.toArray):=(Kp.refl _ W).setRow' (by exact ⟨by rw [hid'];rfl,c,hm⟩) _
 have sep:∀(k' i:Nat),k'≠k->i<m->¬(k*m+j<=k'*m+i/\k'*m+i<k*m+j+ns.length):=fun k' i hne hi h=>by
  rcases Nat.lt_or_ge k' k with h' | h'
  ·have:=Nat.mul_le_mul_right m (show k'+1<=k by omega)
   rw [Nat.add_mul,Nat.one_mul] at this
   omega
  ·have:=Nat.mul_le_mul_right m (show k+1<=k' by omega)
   rw [Nat.add_mul,Nat.one_mul] at this
   omega
 obtain ⟨hs, hi⟩ := inv_turn hr.inv id (μ id) ep (.row ty m (els.set k (ovw cs j ns))) hkp (fun b1 c1 e => by
   rw [hm] at e
   obtain ⟨rfl,rfl⟩:b=b1/\c=c1:=by simpa using e
   exact ⟨by simpa using (hr.inv.apart b ⟨id,ep,_,c,hid',hm⟩).1,.inr ⟨by rw [hid'];rfl,c,hm⟩⟩)
  (.inr ⟨by rw [hid'],_,by rw [hid'],by simp [Body.sh],rfl⟩) (fun hs=>by
   refine .inr ⟨b,c,new.toArray,hm,setRow_heap W b _ _ _ _ hh,by simpa using q1,q2,by simpa [hnl] using q3,fun k' cs' hk'=>?_,fun k' cs' i y hk' hi'=>?_⟩
   ·rw [List.getElem?_set] at hk'
    split at hk'
    ·simp only [hklt,if_true,qU] at hk'
     rw [<- hk',ovw_length]
     exact hcm
    ·exact q4 k' cs' hk'
   ·rw [List.getElem?_set] at hk'
    rw [uG,hget]
    split at hk'
    ·rename_i e
     subst e
     simp only [hklt,if_true,qU] at hk'
     subst hk'
     rw [ovw_get _ _ _ _ (by omega)] at hi'
     split at hi'
     ·rename_i e
      rw [if_pos (by omega),show k*m+i - (k*m+j)=i - j by omega]
      obtain ⟨v,hv'⟩:∃v,(a.eval x).cells.toList[i - j]?=some v:=⟨_,qA (by have:=(qC.1 hi').1;omega)⟩
      have:=hxp _ _ _ hi' hv'
      exact ⟨this.1,v,hv',(pu1_rel (h2 y (qQ hi')) this.2).stp hr.inv hs⟩
     ·rename_i e
      rw [if_neg (by omega)]
      obtain ⟨r1,v,r2,r3⟩:=q5 k cs i y hk hi'
      exact ⟨r1,v,r2,r3.stp hr.inv hs⟩
    ·rename_i e
     have hlt:i<m:=by have:=(qC.1 hi').1;rw [q4 k' cs' hk'] at this;exact this
     rw [if_neg (sep k' i (fun h=>e h.symm) hlt)]
     obtain ⟨r1,v,r2,r3⟩:=q5 k' cs' i y hk' hi'
     exact ⟨r1,v,r2,r3.stp hr.inv hs⟩)
 unfold Oper.wp
 have hrun':(execOp a.eval o).run P W = .ok .skip (W.setRow b new.toArray):=by
  simp only [execOp,ho,Instr.storeAt,Instr.sureAddr,hv,Sem.run_bind,Sem.run_pure,Result.andThen_ok,hrun]
 rw [hrun']
 exact hK _ F _ _ (hr.put hs hi (.pure (.tup [] [] rfl (by simp)))) hs
theorem sl_form {W:World} {F:Nat->Prop} {els:List (List AV)} {v:Value} (h:PRel W F (.sl els) v):∃A c,v = .slice A els.length c/\els.length<=c/\c<=maxLen:=by
 cases h with
 | sl _ A c m b off cell hc hm _ _ _ _ _=>exact ⟨A,c,rfl,hc,hm⟩
theorem row_form {W:World} {F:Nat->Prop} {μ:Mu} {σ:Sto} (hi:Inv W F μ σ) {id ep off n t m:Nat} {els:List (List AV)} {v:Value} (h:Rel W F μ σ (.row id ep off n) v) (hid:σ id=⟨ep,some (.row t m els)⟩) :
  off+n<=els.length/\((v = .slice none 0 0/\els=[]/\μ id=none)\/∃b cap,μ id=some (b,cap)/\v = .slice (some ⟨b,off*m,none⟩) n (cap - off)/\els.length<=cap/\cap<=maxLen):=by
 obtain ⟨_,_,hv⟩:=Rel.row' h
 obtain ⟨h1,h2⟩:=hv _ _ _ hid
 refine ⟨h1,?_⟩
 rcases hi.body _ _ _ hid with ⟨hn,rfl⟩ | ⟨b,cap,cur,hp,hh,q1,q2,_⟩
 ·rw [hn] at h2
  exact .inl ⟨h2,rfl,hn⟩
 ·rw [hp] at h2
  exact .inr ⟨b,cap,hp,h2,q1,q2⟩
theorem op_mm {c : Call} {x y : Operand} {t u : Nat} {k k' : IntKind} {m n : Int} {b : Builtin} {r : Int} (ho : o.op = .call c) (hc : c.callee = .builtin b) (ha : c.args = #[x, y]) (hat : c.argTypes = #[t, u]) (hx : s.ev x = .i k m) (hy : s.ev y = .i k' n)
  (hb:(b = .max/\r=max m n)\/(b = .min/\r=min m n)):OpLoc P N o s ⟨.i k r,[],[]⟩:=by
 refine oploc_val [] _ fun s' W F μ a g1 g2 hs=>⟨.int k r,?_,.pure (.i k r)⟩
 have opers:o.op.operands.toList=[x,y]:=by rw [ho];simp [Op.operands,Call.operands,hc,ha]
 have ex:=hs.ev x
 rw [g1 x (by rw [opers];simp),hx] at ex
 have ey:=hs.ev y
 rw [g1 y (by rw [opers];simp),hy] at ey
 rcases hb with ⟨rfl,rfl⟩ | ⟨rfl,rfl⟩
 ·have e:(if n>m then n else m)=max m n:=by split <;> omega
  simp only [execOp,ho,resolve,hc,ha,hat,List.map_toArray,vB,List.map_nil,Sem.run_bind,Sem.run_pure,Result.andThen_ok,invoke,builtin,ex.i',ey.i',run_max_int2,e]
 ·have e:(if n<m then n else m)=min m n:=by split <;> omega
  simp only [execOp,ho,resolve,hc,ha,hat,List.map_toArray,vB,List.map_nil,Sem.run_bind,Sem.run_pure,Result.andThen_ok,invoke,builtin,ex.i',ey.i',run_min_int2,e]
theorem op_lenX {c:Call} {x:Operand} {t e:Nat} {ti:TI} {n:Nat} (ho:o.op = .call c) (hc:c.callee = .builtin .len) (ha:c.args = #[x]) (hat:c.argTypes = #[t]) (ht:TiOk P t ti) (hk:ti.k = .slice e) (rd:List Nat)
  (hx:∀(s':St) W F μ v,(∀id∈rd,s'.σ id=s.σ id)->Inv W F μ s'.σ->Rel W F μ s'.σ (s.ev x) v->∃A k,v = .slice A n k):OpLoc P N o s ⟨.i .i64 n,[],rd⟩:=by
 refine oploc_val rd _ fun s' W F μ a h1 h2 hs=>⟨.int .i64 n,?_,.pure (.i _ _)⟩
 have ex:=hs.ev x
 rw [h1 x (by rw [ho];simp [Op.operands,Call.operands,hc,ha])] at ex
 obtain ⟨A,k,hv⟩:=hx s' W F μ _ h2 hs.inv ex
 simp only [execOp,ho,resolve,hc,ha,hat,List.map_toArray,vB,List.map_nil,Sem.run_bind,Sem.run_pure,Result.andThen_ok,invoke,builtin,Builtin.len_,hv,uG,List.getElem?_cons_zero,run_underlying (ht.slice hk),goInt]
theorem op_len {c:Call} {x:Operand} {t e:Nat} {ti:TI} {els:List (List AV)} (ho:o.op = .call c) (hc:c.callee = .builtin .len) (ha:c.args = #[x]) (hat:c.argTypes = #[t]) (ht:TiOk P t ti) (hk:ti.k = .slice e) (hx:s.ev x = .sl els):OpLoc P N o s ⟨.i .i64 els.length,[],[]⟩ :=
 op_lenX ho hc ha hat ht hk [] fun s' W F μ v _ _ hv=>by
  rw [hx] at hv
  obtain ⟨A,k,e,_⟩:=sl_form hv.sl'
  exact ⟨A,k,e⟩
theorem op_lenR {c:Call} {x:Operand} {t e id ep off n ty m:Nat} {els:List (List AV)} {ti:TI} (ho:o.op = .call c) (hc:c.callee = .builtin .len) (ha:c.args = #[x]) (hat:c.argTypes = #[t]) (ht:TiOk P t ti) (hk:ti.k = .slice e) (hx:s.ev x = .row id ep off n) (hid:s.σ id=⟨ep,some (.row ty m els)⟩):OpLoc P N o s ⟨.i .i64 n,[],[id]⟩ :=
 op_lenX ho hc ha hat ht hk [id] fun s' W F μ v hσ hi hv=>by
  rw [hx] at hv
  obtain ⟨h1,⟨rfl,rfl,_⟩ | ⟨b,cap,_,e,_⟩⟩:=row_form hi hv ((hσ id (by simp)).trans hid)
  ·obtain rfl:n=0:=by simp at h1;omega
   exact ⟨_,_,rfl⟩
  ·exact ⟨_,_,e⟩
theorem op_lenN {c:Call} {x:Operand} {t e:Nat} {ti:TI} (ho:o.op = .call c) (hc:c.callee = .builtin .len) (ha:c.args = #[x]) (hat:c.argTypes = #[t]) (ht:TiOk P t ti) (hk:ti.k = .slice e) (hx:s.ev x = .raw (.slice none 0 0)):OpLoc P N o s ⟨.i .i64 ((0:Nat):Int),[],[]⟩ :=
 op_lenX ho hc ha hat ht hk [] fun s' W F μ v _ _ hv=>by
  rw [hx] at hv
  exact ⟨_,_,hv.raw'⟩
theorem op_lenS {c:Call} {x:Operand} {t:Nat} {ti:TI} {l:List UInt8} (ho:o.op = .call c) (hc:c.callee = .builtin .len) (ha:c.args = #[x]) (hat:c.argTypes = #[t]) (ht:TiOk P t ti) (hk:ti.k = .str) (hx:s.ev x = .s l):OpLoc P N o s ⟨.i .i64 l.length,[],[]⟩:=by
 refine oploc_val [] _ fun s' W F μ a h1 h2 hs=>⟨.int .i64 l.length,?_,.pure (.i _ _)⟩
 have ex:=hs.ev x
 rw [h1 x (by rw [ho];simp [Op.operands,Call.operands,hc,ha]),hx] at ex
 simp only [execOp,ho,resolve,hc,ha,hat,List.map_toArray,vB,List.map_nil,Sem.run_bind,Sem.run_pure,Result.andThen_ok,invoke,builtin,Builtin.len_,ex.s',uG,List.getElem?_cons_zero,run_underlying (ht.str hk),goInt]
 rfl
theorem op_index {t e k:Nat} {ti ei:TI} {x i:Operand} {kd:IntKind} {els:List (List AV)} {cs:List AV} (ho:o.op = .indexAddr t x i) (ht:TiOk P t ti) (hk:ti.k = .slice e) (he:TiOk P e ei) (hx:s.ev x = .sl els) (hi:s.ev i = .i kd (k:Int)) (hcs:els[k]?=some cs)
  (hn:cs.length=ei.n):OpLoc P N o s ⟨.ro cs,[],[]⟩:=by
 refine oploc_val [] _ fun s' W F μ a h1 h2 hs=>?_
 have ex:=hs.ev x
 rw [h1 x (by rw [ho];simp [Op.operands]),hx] at ex
 have ei':=hs.ev i
 rw [h1 i (by rw [ho];simp [Op.operands]),hi] at ei'
 have hlt:k<els.length:=(qC.1 hcs).1
 generalize hq:a.eval x=q at ex
 cases ex.sl' with
 | sl _ A c m b off cell hc hm hA hl hone hr hw =>
  obtain ⟨rfl,hF,hb⟩:=hA (by omega)
  have hm':=hl k cs hcs
  refine ⟨.pointer (some ⟨b,off+k*m,none⟩),?_,.pure (.ro cs b (off+k*m) (cell k) hF hb (fun j x hj=>hone k cs j x hcs hj) (fun j x hj=>hr k cs j x hcs hj) (fun j x hj=>by rw [Nat.add_assoc];exact hw k cs j x hcs hj))⟩
  have hcond:(0:Int)<=(k:Int)/\(k:Int)<(els.length:Int):=by omega
  simp only [execOp,ho,Instr.indexAt,hq,ei'.i',asIntOf,Sem.run_bind,Sem.run_pure,Result.andThen_ok,run_underlying (ht.slice hk),if_pos hcond,he.size,vU,ca_ptr (W:=W),<- hn,hm']
theorem op_indexR {t e k id ep off n ty m : Nat} {ti ei : TI} {x i : Operand} {kd : IntKind} {els : List (List AV)} (ho : o.op = .indexAddr t x i) (ht : TiOk P t ti) (hk : ti.k = .slice e) (he : TiOk P e ei) (hx : s.ev x = .row id ep off n) (hid : s.σ id = ⟨ep, some (.row ty m els)⟩) (hi : s.ev i = .i kd (k : Int)) (hlt : k < n)
  (hn:m=ei.n):OpLoc P N o s ⟨.el id ep (off+k) 0,[],[id]⟩:=by
 refine oploc_val [id] _ fun s' W F μ a h1 h2 hs=>?_
 have hid':=(h2 id (by simp)).trans hid
 have ex:=hs.ev x
 rw [h1 x (by rw [ho];simp [Op.operands]),hx] at ex
 have ei':=hs.ev i
 rw [h1 i (by rw [ho];simp [Op.operands]),hi] at ei'
 obtain ⟨q1,⟨_,rfl,_⟩ | ⟨b,cap,hm,hv,_⟩⟩:=row_form hs.inv ex hid'
 ·simp at q1;omega
 ·have hcond:(0:Int)<=(k:Int)/\(k:Int)<(n:Int):=by omega
  refine ⟨.pointer (some ⟨b,off*m+k*ei.n,none⟩),?_,.el id ep (off+k) 0 _ (by rw [hid'];exact qJ _) rfl fun bd' m' l' hbd hL=>⟨b,cap,hm,?_⟩⟩
  ·simp only [execOp,ho,Instr.indexAt,hv,ei'.i',asIntOf,Sem.run_bind,Sem.run_pure,Result.andThen_ok,run_underlying (ht.slice hk),if_pos hcond,he.size,vU,ca_ptr (W:=W)]
  ·rw [hid'] at hbd
   obtain rfl:Body.row ty m els=bd':=by simpa using hbd
   obtain ⟨rfl,_⟩:m=m'/\els.length=l':=by simpa [Body.rowL] using hL
   rw [<- hn,Nat.add_zero,Nat.add_mul]
end
section
variable {P : Program} {N : Nat} {o : Oper} {s : St}
inductive Bd (s:St) (d:Nat):Option Operand->Nat->Prop where
 | no:Bd s d none d
 | at_ {x:Operand} {kd:IntKind} {k:Nat} (h:s.ev x = .i kd (k:Int)):Bd s d (some x) k
theorem bd_run {s s':St} {d n:Nat} {x:Option Operand} (h:Bd s d x n) (hs:∀y,x=some y->s'.ev y=s.ev y) {W:World} {F:Nat->Prop} {μ:Mu} {a:Act} (hr:RS N W F μ s' a) :
  (x=none/\n=d)\/∃y kd,x=some y/\a.eval y = .int kd (n:Int):=by
 cases h with
 | no=>exact .inl ⟨rfl,rfl⟩
 | @at_ y kd k h =>
  have:=hr.ev y
  rw [hs y rfl,h] at this
  exact .inr ⟨y,kd,rfl,this.i'⟩
theorem sliceBounds_run {W:World} {l h c:Nat} {lo hi:Option Value} (hlo:(lo=none/\l=0)\/∃kd,lo=some (.int kd (l:Int))) {len:Nat} (hhi:(hi=none/\h=len)\/∃kd,hi=some (.int kd (h:Int))) (h1:l<=h) (h2:h<=c) (b:Bool) :
  (Instr.sliceBounds b len c lo hi none).run P W = .ok (l,h,c) W:=by
 have e1:(0:Int)<=(l:Int)/\(l:Int)<=(h:Int):=by omega
 have e2:(0:Int)<=(h:Int)/\(h:Int)<=(c:Int):=by omega
 rcases hlo with ⟨rfl,rfl⟩ | ⟨kd,rfl⟩ <;> rcases hhi with ⟨rfl,rfl⟩ | ⟨kd',rfl⟩
 ·simp only [Instr.sliceBounds,Sem.run_bind,Sem.run_pure,Result.andThen_ok]
 ·simp only [Instr.sliceBounds,Instr.sliceBound,asIntOf,Sem.run_bind,Sem.run_pure,Result.andThen_ok,if_pos e2,vU]
 ·simp only [Instr.sliceBounds,Instr.sliceBound,asIntOf,Sem.run_bind,Sem.run_pure,Result.andThen_ok,if_pos e1,vU]
 ·simp only [Instr.sliceBounds,Instr.sliceBound,asIntOf,Sem.run_bind,Sem.run_pure,Result.andThen_ok,if_pos e1,if_pos e2,vU]
theorem op_sliceR {t e id ep n ty m h : Nat} {ti ei : TI} {x : Operand} {lo hi : Option Operand} {els : List (List AV)} (ho : o.op = .slice t x lo hi none) (ht : TiOk P t ti) (hk : ti.k = .slice e) (he : TiOk P e ei) (hx : s.ev x = .row id ep 0 n) (hid : s.σ id = ⟨ep, some (.row ty m els)⟩)
    (hlo:Bd s 0 lo 0) (hhi:Bd s n hi h) (h2:h<=n):OpLoc P N o s ⟨.row id ep 0 h,[],[id]⟩:=by
  refine oploc_val [id] _ fun s' W F μ a g1 g2 hs=>?_
  have hid':=(g2 id (by simp)).trans hid
  have ex:=hs.ev x
  rw [g1 x (by rw [ho];simp [Op.operands]),hx] at ex
  have r1:=bd_run hlo (fun y hy=>g1 y (by rw [ho,hy];simp [Op.operands])) hs
  have r2:=bd_run hhi (fun y hy=>g1 y (by rw [ho,hy];simp [Op.operands])) hs
  obtain ⟨q1,q⟩:=row_form hs.inv ex hid'
  have form:∃A c,a.eval x = .slice A n c/\n<=c/\(∀v,v = .slice A h c->Rel W F μ s'.σ (.row id ep 0 h) v):=by
    rcases q with ⟨e,e2,e3⟩ | ⟨b,cap,hm,hv,q2,q3⟩
    · subst e2
      obtain rfl:n=0:=by simp at q1;omega
      obtain rfl:h=0:=by omega
      refine ⟨none,0,e,qJ _,fun v hv=>.row id ep 0 0 v (by rw [hid'];exact qJ _) (by rw [hv];rfl) fun bd' m' l' hbd hL=>?_⟩
      exact ⟨qP _,by rw [e3];exact hv⟩
    · refine ⟨_,cap - 0,hv,by omega,fun v hv=>.row id ep 0 h v (by rw [hid'];exact qJ _) (by rw [hv];rfl) fun bd' m' l' hbd hL=>?_⟩
      rw [hid'] at hbd
      obtain rfl:Body.row ty m els=bd':=by simpa using hbd
      obtain ⟨rfl,rfl⟩:m=m'/\els.length=l':=by simpa [Body.rowL] using hL
      exact ⟨by omega,by rw [hm];exact hv⟩
  obtain ⟨A,c,hv,hc,hrel⟩:=form
  have hrun:=sliceBounds_run (P:=P) (W:=W) (l:=0) (h:=h) (c:=c) (len:=n) (lo:=lo.map a.eval) (hi:=hi.map a.eval)
    (by rcases r1 with ⟨e, e'⟩ | ⟨y, kd, e, e'⟩
        · exact .inl ⟨by rw [e];rfl,rfl⟩
        · exact .inr ⟨kd,by rw [e,Option.map_some,e']⟩)
    (by rcases r2 with ⟨e, e'⟩ | ⟨y, kd, e, e'⟩
        · exact .inl ⟨by rw [e];rfl,e'⟩
        · exact .inr ⟨kd,by rw [e,Option.map_some,e']⟩) (qP _) (by omega) true
  have hA:(if c=0 then A else A.map (·.add (0*ei.n)))=A:=by
    split
    · rfl
    · cases A with
      | none=>rfl
      | some ad=>simp [Addr.add]
  refine ⟨.slice A h c,?_,hrel _ rfl⟩
  simp only [execOp,ho,Instr.sliceAt,Instr.slice,hv,Sem.run_bind,Sem.run_pure,Result.andThen_ok,run_underlying (ht.slice hk),Option.map_none,hrun,he.size,hA,Nat.sub_zero]
theorem op_sliceN {t e:Nat} {ti ei:TI} {x:Operand} {lo hi:Option Operand} (ho:o.op = .slice t x lo hi none) (ht:TiOk P t ti) (hk:ti.k = .slice e) (he:TiOk P e ei) (hx:s.ev x = .raw (.slice none 0 0)) (hlo:Bd s 0 lo 0) (hhi:Bd s 0 hi 0):OpLoc P N o s ⟨.raw (.slice none 0 0),[],[]⟩:=by
  refine oploc_val [] _ fun s' W F μ a g1 g2 hs=>?_
  have ex:=hs.ev x
  rw [g1 x (by rw [ho];simp [Op.operands]),hx] at ex
  have r1:=bd_run hlo (fun y hy=>g1 y (by rw [ho,hy];simp [Op.operands])) hs
  have r2:=bd_run hhi (fun y hy=>g1 y (by rw [ho,hy];simp [Op.operands])) hs
  have hrun:=sliceBounds_run (P:=P) (W:=W) (l:=0) (h:=0) (c:=0) (len:=0) (lo:=lo.map a.eval) (hi:=hi.map a.eval)
    (by rcases r1 with ⟨e, e'⟩ | ⟨y, kd, e, e'⟩
        · exact .inl ⟨by rw [e];rfl,rfl⟩
        · exact .inr ⟨kd,by rw [e,Option.map_some,e']⟩)
    (by rcases r2 with ⟨e, e'⟩ | ⟨y, kd, e, e'⟩
        · exact .inl ⟨by rw [e];rfl,rfl⟩
        · exact .inr ⟨kd,by rw [e,Option.map_some,e']⟩) (qJ _) (qJ _) true
  refine ⟨.slice none 0 0,?_,.pure (.raw _)⟩
  simp only [execOp,ho,Instr.sliceAt,Instr.slice,ex.raw',Sem.run_bind,Sem.run_pure,Result.andThen_ok,run_underlying (ht.slice hk),Option.map_none,hrun,he.size,if_true,Nat.sub_zero]
def ofI64 (n:Int):UInt64:=UInt64.ofNat (IntKind.u64.wrap n).toNat
def ofI8 (n:Int):UInt8:=UInt8.ofNat (IntKind.u8.wrap n).toNat
theorem ofI64_nat (n:Int):((ofI64 n).toNat:Int)=IntKind.u64.wrap n:=by
 unfold ofI64
 have h:0<=IntKind.u64.wrap n/\IntKind.u64.wrap n<18446744073709551616:=by rw [IntKind.wrap_u64];omega
 rw [UInt64.toNat_ofNat']
 omega
theorem ofI8_nat (n:Int):((ofI8 n).toNat:Int)=IntKind.u8.wrap n:=by
 unfold ofI8
 have h:0<=IntKind.u8.wrap n/\IntKind.u8.wrap n<256:=by rw [IntKind.wrap_u8'];omega
 rw [UInt8.toNat_ofNat']
 omega
def cvI (k:IntKind) (n:Int):AV :=
 match k with
 | .u64=>.u (ofI64 n)
 | .u8=>.y (ofI8 n)
 | k=>.i k (k.wrap n)
def cvA (k:IntKind):AV->Option AV
 | .i _ n=>some (cvI k n)
 | .u x=>match k with
  | .u64=>some (.u x)
  | .u8=>some (.y x.toUInt8)
  | k=>some (.i k (k.wrap x.toNat))
 | .y x=>match k with
  | .u64=>some (.u x.toUInt64)
  | .u8=>some (.y x)
  | k=>some (.i k (k.wrap x.toNat))
 | _=>none
theorem cvI_rel {W:World} {F:Nat->Prop} (k:IntKind) (n:Int):PRel W F (cvI k n) (.int k (k.wrap n)):=by
 cases k with
 | u64=>rw [<- ofI64_nat];exact .u _
 | u8=>rw [<- ofI8_nat];exact .y _
 | _=>exact .i _ _
theorem cvA_rel {W:World} {F:Nat->Prop} {μ:Mu} {σ:Sto} {k:IntKind} {x r:AV} {v:Value} (h:cvA k x=some r) (hx:Rel W F μ σ x v):∃k' n,v = .int k' n/\PRel W F r (.int k (k.wrap n)):=by
 cases x with
 | i k' n =>
  obtain rfl:=qB h
  exact ⟨k',n,hx.i',cvI_rel k n⟩
 | u x =>
  refine ⟨.u64,x.toNat,hx.u',?_⟩
  cases k with
  | u64 =>
   obtain rfl:=qB h
   rw [u64_wrap_self]
   exact .u x
  | u8 =>
   obtain rfl:=qB h
   rw [u8_wrap]
   exact .y x.toUInt8
  | _=>obtain rfl:=qB h;exact .i _ _
 | y x =>
  refine ⟨.u8,x.toNat,hx.y',?_⟩
  cases k with
  | u64 =>
   obtain rfl:=qB h
   rw [u64_wrap_u8]
   exact .u x.toUInt64
  | u8 =>
   obtain rfl:=qB h
   rw [u8_wrap,UInt8.ofNat_toNat]
   exact .y x
  | _=>obtain rfl:=qB h;exact .i _ _
 | _=>simp [cvA] at h
theorem op_conv {t u:Nat} {ti ui:TI} {k:IntKind} {x:Operand} {r:AV} (ho:o.op = .convert t u x) (ht:TiOk P t ti) (hu:TiOk P u ui) (hk:ui.k = .int k) (h:cvA k (s.ev x)=some r):OpLoc P N o s ⟨r,[],[]⟩:=by
 refine oploc_val [] _ fun s' W F μ a g1 g2 hs=>?_
 have ex:=hs.ev x
 rw [g1 x (by rw [ho];simp [Op.operands])] at ex
 obtain ⟨k',n,hv,hr⟩:=cvA_rel h ex
 obtain ⟨_,d,_,_,hd,_⟩:=ht.h
 refine ⟨_,?_,.pure hr⟩
 simp only [execOp,ho,hv,convert,Sem.run_bind,Sem.run_pure,Result.andThen_ok,run_underlying hd,run_underlying (hu.int hk),Conv.intToInt]
def byteEls (l:List UInt8):List (List AV):=l.map fun c=>[.y c]
theorem op_str {t u e:Nat} {ti ui ei:TI} {x:Operand} {l:List UInt8} (ho:o.op = .convert t u x) (ht:TiOk P t ti) (hk:ti.k = .slice e) (he:TiOk P e ei) (hke:ei.k = .int .u8) (hu:TiOk P u ui) (hku:ui.k = .str) (hx:s.ev x = .sl (byteEls l)):OpLoc P N o s ⟨.s l,[],[]⟩:=by
 refine oploc_val [] _ fun s' W F μ a g1 g2 hs=>?_
 have ex:=hs.ev x
 rw [g1 x (by rw [ho];simp [Op.operands]),hx] at ex
 have hsl:SliceAt u8R W F l (a.eval x):=by
  generalize a.eval x=q at ex
  cases ex.sl' with
  | sl _ A c m b off cell hc hm hA hl hone hr hw =>
   have hlen:(byteEls l).length=l.length:=by simp [byteEls]
   rw [hlen] at hc hA ⊢
   refine ⟨A,c,rfl,hc,hm,fun hp=>?_⟩
   obtain ⟨rfl,hF,hb⟩:=hA hp
   have get:∀(j:Nat) (y:UInt8),l[j]?=some y->(byteEls l)[j]?=some [.y y]:=fun j y hj=>by simp [byteEls,hj]
   have m1:m=1:=by
    obtain ⟨y,hy⟩:∃y,l[0]?=some y:=⟨_,qA hp⟩
    exact (hl 0 _ (get 0 y hy)).symm
   refine ⟨b,off,rfl,hF,hb,l.map (fun y=>.int .u8 y.toNat),?_,fun j u hu=>?_⟩
   ·clear hA hw hr hl hone get hc hs g1 g2 ex hx hlen
    induction l with
    | nil=>rfl
    | cons y l ih =>
     cases l with
     | nil=>exact ⟨_,[],rfl,rfl,rfl⟩
     | cons z l=>exact ⟨[.int .u8 y.toNat],_,rfl,rfl,ih (by simp)⟩
   ·rw [qE] at hu
    cases hy:l[j]? with
    | none=>rw [hy] at hu;cases hu
    | some y =>
     rw [hy] at hu
     obtain rfl:Value.int .u8 (y.toNat:Int)=u:=by simpa using hu
     have h1:=hw j _ 0 _ (get j y hy) rfl
     have h2:=hr j _ 0 _ (get j y hy) rfl
     rw [m1,Nat.mul_one,Nat.add_zero] at h1
     generalize cell j 0=q at h1 h2
     cases h2
     exact h1
 refine ⟨.string ⟨l.toArray⟩,?_,.pure (.s l)⟩
 simp only [execOp,ho,Sem.run_bind,run_conv_str (ht.slice hk) (he.int hke) (hu.str hku) hsl,Result.andThen_ok,Sem.run_pure]
 rfl
end
section
variable {P : Program} {N : Nat} {o : Oper} {s : St}
def fillA (place:Nat->Option (Nat × Nat)):List AV->List (Nat × AV)->Option (List AV)
 | cs,[]=>some cs
 | cs,p::l=>match place p.1 with
  | some (off,size)=>cond (Nat.beq p.2.cells.length size && Nat.ble (off+size) cs.length && p.2.cells.all AV.one) (fillA place (ovw cs off p.2.cells) l) none
  | none=>none
theorem fold_set (off:Nat):∀(vs:List Value) (cs:Array Value) (k:Nat),off+k+vs.length<=cs.size ->
  (vs.zipIdx k).foldl (fun cs p=>cs.setIfInBounds (off+p.2) p.1) cs=((cs.toList.take (off+k))++vs++cs.toList.drop (off+k+vs.length)).toArray
 | [],cs,k,h=>by simp
 | v::vs,cs,k,h=>by
  rw [List.zipIdx_cons,uY,fold_set off vs _ (k+1) (by simp at h ⊢;omega)]
  apply Array.toList_inj.1
  simp only [Array.toList_setIfInBounds,qR]
  simp only [qR] at h
  have hlt:off+k<cs.toList.length:=by simp;omega
  rw [List.take_set,List.drop_set,if_pos (by omega),show off+(k+1)=off+k+1 by omega,List.take_add_one,qA hlt]
  have e:(cs.toList.take (off+k)++(some cs.toList[off+k]).toList).set (off+k) v=cs.toList.take (off+k)++[v]:=by
   rw [List.set_append,vO,Nat.min_eq_left (by omega),if_neg (by omega)]
   simp
  rw [e,show off+k+1+vs.length=off+k+(vs.length+1) by omega]
  simp
theorem fill_ok {place : Nat -> Option (Nat × Nat)} {W : World} {F : Nat -> Prop} {μ : Mu} {σ : Sto} : ∀ (ps : List (Nat × AV)) (qs : List (Nat × Value)) (cs : List AV) (vs : Array Value) (r : List AV), ps.map (·.1) = qs.map (·.1) ->
    (∀(j:Nat) (p:Nat × AV) (q:Nat × Value),ps[j]?=some p->qs[j]?=some q->Rel W F μ σ p.2 q.2)->vs.size=cs.length->(∀(j:Nat) (x:AV) (v:Value),cs[j]?=some x->vs[j]?=some v->x.one=true/\Rel W F μ σ x v) ->
    fillA place cs ps=some r->∃us:Array Value,Instr.fill place vs qs=some us/\us.size=r.length/\∀(j:Nat) (x:AV) (v:Value),r[j]?=some x->us[j]?=some v->x.one=true/\Rel W F μ σ x v
  | [],qs,cs,vs,r,hm,hr,hl,hc,h=>by
    obtain rfl:qs=[]:=by simpa using hm.symm
    obtain rfl:=qB h
    exact ⟨vs,rfl,hl,hc⟩
  | p::ps,[],cs,vs,r,hm,hr,hl,hc,h=>by simp at hm
  | p::ps,q::qs,cs,vs,r,hm,hr,hl,hc,h=>by
    simp only [vB,List.cons.injEq] at hm
    simp only [fillA] at h
    cases hp:place p.1 with
    | none=>rw [hp] at h;cases h
    | some os =>
      obtain ⟨off,size⟩:=os
      rw [hp] at h
      simp only at h
      cases hb:(Nat.beq p.2.cells.length size && Nat.ble (off+size) cs.length && p.2.cells.all AV.one) with
      | false=>rw [hb] at h;cases h
      | true =>
        rw [hb,cond_true] at h
        simp only [qN,qW] at hb
        obtain ⟨⟨hb1,hb2⟩,hb3⟩:=hb
        have hb1:=qY hb1
        have hb2:=qV hb2
        obtain ⟨hcl,hcr⟩:=cells_rel (hr 0 p q rfl rfl) hb3
        have hqs:q.2.cells.size=size:=by rw [<- qL,hcl,hb1]
        have hfold:q.2.cells.zipIdx.foldl (fun cs (x:Value × Nat)=>cs.setIfInBounds (off+x.2) x.1) vs=(vs.toList.take off++q.2.cells.toList++vs.toList.drop (off+size)).toArray:=by
          have:=fold_set off q.2.cells.toList vs 0 (by rw [qL,hqs];omega)
          rw [Nat.add_zero,qL,hqs] at this
          rw [<- this,<- Array.foldl_toList,Array.toList_zipIdx]
        obtain ⟨us,h1,h2,h3⟩:=fill_ok ps qs (ovw cs off p.2.cells) (vs.toList.take off++q.2.cells.toList++vs.toList.drop (off+size)).toArray r hm.2 (fun j p q h1 h2=>hr (j+1) p q (by simpa using h1) (by simpa using h2))
          (by simp only [uP,qT,vO,uK,qL,ovw_length,hqs];omega) (fun j x v hx hv=>by
            rw [ovw_get _ _ _ _ (by omega)] at hx
            rw [uG,uI,vX,vO,qL,Nat.min_eq_left (by omega)] at hv
            by_cases e1:j<off
            · rw [if_neg (by omega)] at hx
              rw [if_pos e1,uB,if_pos e1,vM] at hv
              exact hc j x v hx hv
            · rw [if_neg e1,vX,qL,hqs] at hv
              by_cases e2:j - off<size
              · rw [if_pos (by omega)] at hx
                rw [if_pos e2] at hv
                exact hcr _ _ _ hx hv
              · rw [if_neg (by omega)] at hx
                rw [if_neg e2,uD,vM,show off+size+(j - off - size)=j by omega] at hv
                exact hc j x v hx hv) h
        refine ⟨us,?_,h2,h3⟩
        obtain ⟨i,v⟩:=q
        simp only at hm hqs hfold h1
        rw [Instr.fill,<- hm.1,hp]
        simp only
        rw [if_neg (by rw [hqs];simp;omega),hfold]
        exact h1
theorem parts_rel {s':St} {W:World} {F:Nat->Prop} {μ:Mu} {a:Act} (hr:RS N W F μ s' a) {parts:Array (Nat × Operand)} (hs:∀p∈parts.toList,s'.ev p.2=s.ev p.2) :
  (parts.toList.map fun p=>(p.1,s.ev p.2)).map (·.1)=(parts.map fun (p:Nat × Operand)=>(p.1,a.eval p.2)).toList.map (·.1) /\
  ∀(j:Nat) (p:Nat × AV) (q:Nat × Value),(parts.toList.map fun p=>(p.1,s.ev p.2))[j]?=some p->(parts.map fun (p:Nat × Operand)=>(p.1,a.eval p.2)).toList[j]?=some q->Rel W F μ s'.σ p.2 q.2:=by
 refine ⟨by simp,fun j p q hp hq=>?_⟩
 rw [qE] at hp
 rw [Array.toList_map,qE] at hq
 cases hx:parts.toList[j]? with
 | none=>rw [hx] at hp;cases hp
 | some x =>
  rw [hx] at hp hq
  obtain rfl:=qB hp
  obtain rfl:=qB hq
  show Rel W F μ s'.σ (s.ev x.2) (a.eval x.2)
  rw [<- hs x (qQ hx)]
  exact hr.ev x.2
def plS (T:TT) (fs:List (Nat × Nat)) (i:Nat):Option (Nat × Nat) :=
 match fs[i]? with
 | some (ft,off)=>match tget T ft with
  | some fi=>some (off,fi.n)
  | none=>none
 | none=>none
theorem places_mapM {T:TT} (hT:tabB P T=true):∀(fs:List Field),(∀f∈fs,(tget T f.type).isSome=true) ->
  ∃pl,fs.mapM (fun f=>(P.info? f.type).map fun i=>(f.offset,i.size))=some pl/\∀i,pl[i]?=plS T (fs.map fun f=>(f.type,f.offset)) i
 | [],_=>⟨[],rfl,fun i=>by simp [plS]⟩
 | f::fs,h=>by
  obtain ⟨pl,h1,h2⟩:=places_mapM hT fs fun g hg=>h g (by simp [hg])
  obtain ⟨ti,hti⟩:=vV.1 (h f (by simp))
  obtain ⟨inf,d,z,g1,g2,g3,_⟩:=(tab_ok hT hti).h
  refine ⟨(f.offset,ti.n)::pl,by simp [h1,g1,g3],fun i=>?_⟩
  cases i with
  | zero=>simp [plS,hti]
  | succ i =>
   rw [uS,h2]
   simp [plS]
theorem op_build {T : TT} (hT : tabB P T = true) {t : Nat} {ti : TI} {fs : List (Nat × Nat)} {parts : Array (Nat × Operand)} {r : List AV} (ho : o.op = .build t parts) (ht : tget T t = some ti) (hk : ti.k = .strct fs) (hf : fs.all (fun p => (tget T p.1).isSome) = true)
    (hr:fillA (plS T fs) ti.z (parts.toList.map fun p=>(p.1,s.ev p.2))=some r) (h1:r.all AV.one=true):OpLoc P N o s ⟨.agg r,[],[]⟩:=by
  refine oploc_val [] _ fun s' W F μ a g1 g2 hs=>?_
  have hp:=parts_rel (s:=s) hs (parts:=parts) fun p hp=>g1 p.2 (by rw [ho];simp only [Op.operands,vF];exact ⟨p,hp,rfl⟩)
  obtain ⟨inf,d,z,q1,q2,q3,q4,q5,q6,q7⟩:=(tab_ok hT ht).h
  obtain ⟨fs',hu,hm⟩:=(tab_ok hT ht).strct hk
  have hz:=zsOk_rel (W:=W) (F:=F) q7
  obtain ⟨us,k1,k2,k3⟩:=fill_ok _ _ ti.z z.cells r hp.1 hp.2 (by rw [<- qL];exact hz.1) (fun j x v hx hv=>by
    have:=hz.2 j x v hx (by simpa using hv)
    exact ⟨this.2,.pure this.1⟩) hr
  rw [qW] at hf h1
  obtain ⟨pl,e1,e2⟩:=places_mapM hT fs'.toList fun f hfm=>by
    have:=hf (f.type,f.offset) (by rw [<- hm];exact qX (f:=fun f:Field=>(f.type,f.offset)) hfm)
    simpa using this
  have hb:P.built t (parts.map fun (p:Nat × Operand)=>(p.1,a.eval p.2)).toList=some us:=by
    have hpl:(fun i=>pl.toArray[i]?)=plS T fs:=by
      funext i
      rw [uG,e2,hm]
    simp only [Program.built,q1,hu,q6,e1]
    rw [hpl]
    exact k1
  refine ⟨.agg us.toList.toArray,?_,.agg r us.toList (by simpa using k2) (fun j x hx=>h1 x (qQ hx)) (fun j x v hx hv=>(k3 j x v hx (by simpa using hv)).2)⟩
  have e3:us.toList.toArray=us:=by simp
  simp only [execOp,ho,Sem.run_bind,run_build W t _ us hb,Result.andThen_ok,Sem.run_pure,e3]
theorem oploc_newK {id : Nat} {bd : Body} {r : AV} (rd l : List Nat) (h : ∀ (s' : St) W F μ a, (∀ y ∈ o.op.operands.toList, s'.ev y = s.ev y) -> (∀ i ∈ rd, s'.σ i = s.σ i) -> (∀ i ∈ l, s'.σ i = s.σ i) -> RS N W F μ s' a ->
   ∃(v:Value) (cs:List Value) (t c:Nat),(execOp a.eval o).run P W = .ok (.value v) (W.alloc (.cells cs.toArray t)) /\
    ∀F' μ' σ',Stp W F μ s'.σ (W.alloc (.cells cs.toArray t)) F' μ' σ'->(∀b,F b\/Beh μ s'.σ l b->F' b)->σ' id=⟨(s.σ id).ep+1,some bd⟩->μ' id=some (W.heap.size,c) ->
     BodyRel (W.alloc (.cells cs.toArray t)) F' μ' σ' (some (W.heap.size,c)) bd/\Rel (W.alloc (.cells cs.toArray t)) F' μ' σ' r v) :
  OpLoc P N o s ⟨r,killS s.σ l++[(id,⟨(s.σ id).ep+1,some bd⟩)],rd⟩:=by
 intro s' h1 h2 h3 W F μ a hr K Q hK
 have hid:s'.σ id=s.σ id:=h3 (id,⟨(s.σ id).ep+1,some bd⟩) (by simp)
 have hl:∀i∈l,s'.σ i=s.σ i:=fun i hi=>h3 (i,⟨(s.σ i).ep,none⟩) (vN _ (qX (f:=fun id=>(id,(⟨(s.σ id).ep,none⟩:SB))) hi))
 obtain ⟨v,cs,t,c,hrun,hgo⟩:=h s' W F μ a h1 h2 hl hr
 obtain ⟨hs0,hi0⟩:=hr.ext (Kp.refl No W) l rfl
 generalize hσ1:ups s'.σ (killS s'.σ l)=σ1 at hs0 hi0
 generalize hF1:(fun b=>(F b\/Beh μ s'.σ l b)\/(W.heap.size<=b/\b<W.heap.size))=F1 at hs0 hi0
 have hepid:(σ1 id).ep=(s.σ id).ep:=by
  rw [<- hσ1,ups_kill]
  split
  ·rw [hid]
  ·rw [hid]
 have hk:Kp (fun b=>(σ1 id).body.isSome=true/\∃c,μ id=some (b,c)) W (W.alloc (.cells cs.toArray t)):=(Kp.refl _ W).alloc _
 have hσ:up1 σ1 id ⟨(s.σ id).ep+1,some bd⟩ id=⟨(s.σ id).ep+1,some bd⟩:=by rw [up1_eq,if_pos rfl]
 have hμ:upm μ id (some (W.heap.size,c)) id=some (W.heap.size,c):=by rw [upm_eq,if_pos rfl]
 have hF:∀b,F b\/Beh μ s'.σ l b->F1 b:=fun b hb=>by rw [<- hF1];exact .inl hb
 obtain ⟨hs,hi⟩:=inv_turn hi0 id (some (W.heap.size,c)) ((s.σ id).ep+1) bd hk (fun b c' e=>by
   have e':W.heap.size=b:=by simp only [qU,qZ] at e;exact e.1
   subst e'
   exact ⟨by simp,.inl (qJ _)⟩) (.inl (by rw [hepid];omega)) (fun hs=>(hgo _ _ _ (hs0.trans hs) hF hσ hμ).1)
 have hup:ups s'.σ (killS s.σ l++[(id,⟨(s.σ id).ep+1,some bd⟩)])=up1 σ1 id ⟨(s.σ id).ep+1,some bd⟩:=by
  have e:killS s.σ l=killS s'.σ l:=List.map_congr_left fun i hi=>by rw [hl i hi]
  rw [e,<- hσ1]
  have app:∀(a b:List (Nat × SB)) (τ:Sto),ups τ (a++b)=ups (ups τ a) b:=fun a=>by
   induction a with
   | nil=>exact fun _ _=>rfl
   | cons p a ih=>exact fun b τ=>ih b _
  rw [app]
  rfl
 unfold Oper.wp
 rw [hrun]
 refine hK _ F1 (upm μ id (some (W.heap.size,c))) _ ?_ ?_
 ·show RS N _ F1 _ ⟨putS N s'.ts o.dst r,ups s'.σ _⟩ _
  rw [hup]
  exact hr.put (hs0.trans hs) hi (hgo _ _ _ (hs0.trans hs) hF hσ hμ).2
 ·rw [hup]
  exact hs0.trans hs
structure RowC (W:World) (F:Nat->Prop) (m:Nat) (els:List (List AV)) (cells:List Value):Prop where
 hm:∀(k:Nat) (cs:List AV),els[k]?=some cs->cs.length=m
 n:cells.length=els.length*m
 r:∀(k:Nat) (cs:List AV) (j:Nat) (x:AV),els[k]?=some cs->cs[j]?=some x->x.one=true/\∃u,cells[k*m+j]?=some u/\PRel W F x u
theorem RowC.nil (W:World) (F:Nat->Prop) (m:Nat):RowC W F m [] []:=⟨fun k cs h=>by simp at h,by simp,fun k cs j x h=>by simp at h⟩
theorem RowC.append {W:World} {F:Nat->Prop} {m:Nat} {a b:List (List AV)} {c d:List Value} (h:RowC W F m a c) (k:RowC W F m b d):RowC W F m (a++b) (c++d):=by
 refine ⟨fun i cs hi=>?_,by rw [qT,qT,h.n,k.n,Nat.add_mul],fun i cs j x hi hj=>?_⟩
 ·rw [vX] at hi
  split at hi
  ·exact h.hm i cs hi
  ·exact k.hm _ cs hi
 ·rw [vX] at hi
  split at hi
  ·rename_i hlt
   obtain ⟨r1,u,r2,r3⟩:=h.r i cs j x hi hj
   exact ⟨r1,u,by rw [List.getElem?_append_left (qC.1 r2).1];exact r2,r3⟩
  ·rename_i hlt
   obtain ⟨r1,u,r2,r3⟩:=k.r _ cs j x hi hj
   have hle:a.length*m<=i*m:=Nat.mul_le_mul_right m (by omega)
   refine ⟨r1,u,?_,r3⟩
   rw [List.getElem?_append_right (by rw [h.n];omega),h.n,<- r2]
   congr 1
   rw [Nat.sub_mul]
   omega
theorem RowC.stp {W W':World} {F F':Nat->Prop} {μ μ':Mu} {σ σ':Sto} (hi:Inv W F μ σ) (hs:Stp W F μ σ W' F' μ' σ') {m:Nat} {els:List (List AV)} {cells:List Value} (h:RowC W F m els cells):RowC W' F' m els cells :=
 ⟨h.hm,h.n,fun k cs j x h1 h2=>by obtain ⟨r1,u,r2,r3⟩:=h.r k cs j x h1 h2;exact ⟨r1,u,r2,r3.stp hi hs⟩⟩
theorem RowC.one {W:World} {F:Nat->Prop} {m:Nat} {els:List (List AV)} {cells:List Value} (h:RowC W F m els cells) (hm:0<m):∀u∈cells,u.oneCell'=true:=by
 intro u hu
 obtain ⟨i,hi⟩:=List.getElem?_of_mem hu
 have hlt:i<els.length*m:=by have:=(qC.1 hi).1;rw [h.n] at this;exact this
 have hk:i / m<els.length:=(Nat.div_lt_iff_lt_mul hm).2 hlt
 obtain ⟨cs,hcs⟩:∃cs,els[i / m]?=some cs:=⟨_,qA hk⟩
 have hj:i % m<cs.length:=by rw [h.hm _ cs hcs];exact Nat.mod_lt _ hm
 obtain ⟨r1,u',r2,r3⟩:=h.r _ cs (i % m) _ hcs (qA hj)
 have e:i / m*m+i % m=i:=by rw [Nat.mul_comm];exact Nat.div_add_mod i m
 rw [e,hi] at r2
 obtain rfl:=qB r2
 exact r3.one r1
theorem RowC.body {W:World} {F:Nat->Prop} {μ:Mu} {σ:Sto} {m t b cap:Nat} {els:List (List AV)} {cells:List Value} {cur:Array Value} (h:RowC W F m els cells) (hh:W.heap[b]?=some (.cells cur t (0,0))) (h1:els.length<=cap) (h2:cap<=maxLen) (h3:cur.size=cap*m)
  (h4:cur.toList.take (els.length*m)=cells):BodyRel W F μ σ (some (b,cap)) (.row t m els):=by
 refine .inr ⟨b,cap,cur,rfl,hh,h1,h2,h3,h.hm,fun k cs j x hk hj=>?_⟩
 obtain ⟨r1,u,r2,r3⟩:=h.r k cs j x hk hj
 refine ⟨r1,u,?_,r3⟩
 rw [<- h4,uB] at r2
 split at r2
 ·simpa using r2
 ·cases r2
theorem rep_flat (l:List AV):∀(n i:Nat),i<n*l.length->(List.replicate n l).flatten[i]?=l[i % l.length]?
 | 0,i,h=>by simp at h
 | n+1,i,h=>by
  rw [List.replicate_succ,uJ,vX]
  split
  ·rename_i hlt
   rw [Nat.mod_eq_of_lt hlt]
  ·rename_i hge
   rw [rep_flat l n _ (by rw [Nat.add_mul,Nat.one_mul] at h;omega)]
   congr 1
   rw [Nat.mod_eq_sub_mod (a:=i) (by omega)]
theorem flat_get {els:List (List AV)} {m:Nat} (hm:∀cs∈els,cs.length=m):∀{k:Nat} {cs:List AV} {j:Nat} {x:AV},els[k]?=some cs->cs[j]?=some x->els.flatten[k*m+j]?=some x:=by
 induction els with
 | nil=>intro k cs j x h;simp at h
 | cons c els ih =>
  intro k cs j x h1 h2
  rw [uJ]
  cases k with
  | zero =>
   obtain rfl:c=cs:=by simpa using h1
   rw [Nat.zero_mul,vL,List.getElem?_append_left (qC.1 h2).1]
   exact h2
  | succ k =>
   have hc:=hm c (by simp)
   rw [List.getElem?_append_right (by rw [hc,Nat.add_mul];omega),hc,show (k+1)*m+j - m=k*m+j by rw [Nat.add_mul];omega]
   exact ih (fun cs h=>hm cs (by simp [h])) (by simpa using h1) h2
theorem flat_len {els:List (List AV)} {m:Nat} (hm:∀cs∈els,cs.length=m):els.flatten.length=els.length*m:=by
 induction els with
 | nil=>simp
 | cons c els ih=>rw [uJ,qT,ih fun cs h=>hm cs (by simp [h]),hm c (by simp),qR,Nat.add_mul];omega
theorem op_buildSlice {t e len id : Nat} {ti ei : TI} {parts : Array (Nat × Operand)} {xs : List AV} {l : List Nat} {els : List (List AV)} (ho : o.op = .buildSlice t len parts) (ht : TiOk P t ti) (hk : ti.k = .slice e) (he : TiOk P e ei) (h0 : (ei.n == 0) = false) (hlen : 0 < len) (hbig : len * ei.n <= 16777216)
    (hz:FzL s.σ (parts.toList.map fun p=>s.ev p.2) xs l) (hf:fillA (fun i=>some (i*ei.n,ei.n)) (List.replicate len ei.z).flatten ((parts.toList.map (·.1)).zip xs)=some els.flatten) (hl:els.length=len) (hm:els.all (fun cs=>Nat.beq cs.length ei.n)=true)
    (hpu:els.all (fun cs=>cs.all fun x=>x.one && x.pu1)=true):OpLoc P N o s ⟨.row id ((s.σ id).ep+1) 0 len,killS s.σ l++[(id,⟨(s.σ id).ep+1,some (.row e ei.n els)⟩)],[]⟩:=by
  refine oploc_newK [] l fun s' W F μ a g1 g2 g3 hs=>?_
  have hz':=hz.congr g3
  have hn0:¬ei.n=0:=by simpa using h0
  obtain ⟨inf,d,z,q1,q2,q3,q4,q5,q6,q7⟩:=he.h
  have hp:=parts_rel (s:=s) hs (parts:=parts) fun p hp=>g1 p.2 (by rw [ho];simp only [Op.operands,vF];exact ⟨p,hp,rfl⟩)
  -- the parts, frozen
  have hrel:=hz'.rel (W:=W) (F:=F) (μ:=μ) hs.inv (vs:=parts.toList.map fun p=>a.eval p.2) (by simp) (fun j x v hx hv=>by
    rw [qE] at hx hv
    cases hq:parts.toList[j]? with
    | none=>rw [hq] at hx;cases hx
    | some q =>
      rw [hq] at hx hv
      obtain rfl:=qB hx
      obtain rfl:=qB hv
      show Rel W F μ s'.σ (s.ev q.2) (a.eval q.2)
      rw [<- g1 q.2 (by rw [ho];simp only [Op.operands,vF];exact ⟨q,qQ hq,rfl⟩)]
      exact hs.ev q.2)
  have hzr:=zsOk_rel (W:=W) (F:=fun b=>F b\/Beh μ s'.σ l b) q7
  have hzl:ei.z.length=z.cells.size:=by rw [<- qL];exact hzr.1.symm
  have hzn:=he.zl
  have hms:(parts.toList.map (·.1)).length=xs.length:=by rw [hrel.1];simp
  obtain ⟨us,k1,k2,k3⟩:=fill_ok (W:=W) (F:=fun b=>F b\/Beh μ s'.σ l b) (μ:=μ) (σ:=s'.σ) ((parts.toList.map (·.1)).zip xs) (parts.map fun (p:Nat × Operand)=>(p.1,a.eval p.2)).toList (List.replicate len ei.z).flatten
    ((Array.range (len*ei.n)).map (z.cells[· % z.cells.size]!)) els.flatten (by rw [List.map_fst_zip (by omega)];simp) (fun j p q hp' hq'=>by
      rw [Array.toList_map,qE] at hq'
      obtain ⟨y1,y2⟩:=p
      rw [List.getElem?_zip_eq_some] at hp'
      cases hx:parts.toList[j]? with
      | none=>rw [hx] at hq';cases hq'
      | some x =>
        rw [hx] at hq'
        obtain rfl:=qB hq'
        exact .pure (hrel.2 j _ _ hp'.2 (by rw [qE,hx];rfl))) (by rw [flat_len (m:=ei.n) (by intro cs hcs;rw [(List.mem_replicate.1 hcs).2];exact hzn)];simp) (fun j x v hx hv=>by
      have hj:j<len*ei.n:=by
        have:=(qC.1 hx).1
        rw [flat_len (m:=ei.n) (by intro cs hcs;rw [(List.mem_replicate.1 hcs).2];exact hzn)] at this
        simpa using this
      rw [rep_flat _ _ _ (by rw [hzn];exact hj),hzn] at hx
      rw [Array.getElem?_map] at hv
      have:(Array.range (len*ei.n))[j]?=some j:=by simp [hj]
      rw [this] at hv
      have hlt:j % ei.n<z.cells.size:=by rw [<- hzl,hzn];exact Nat.mod_lt _ (by omega)
      have hv':z.cells.toList[j % ei.n]?=some v:=by
        rw [vM,uE hlt]
        simp only [Option.map_some,<- hzl,hzn] at hv
        rw [getElem!_pos z.cells _ hlt] at hv
        exact hv
      have:=hzr.2 _ x v hx hv'
      exact ⟨this.2,.pure this.1⟩) hf
  have hmm:∀cs∈els,cs.length=ei.n:=fun cs hcs=>qY (qW.1 hm cs hcs)
  have hrow:RowC W (fun b=>F b\/Beh μ s'.σ l b) ei.n els us.toList:=by
    refine ⟨fun k cs hk=>hmm cs (qQ hk),by rw [qL,k2,flat_len hmm],fun k cs j x hk hj=>?_⟩
    have hx:=flat_get hmm hk hj
    obtain ⟨v,hv⟩:∃v,us[k*ei.n+j]?=some v:=⟨_,uE (by rw [k2];exact (qC.1 hx).1)⟩
    obtain ⟨r1,r2⟩:=k3 _ x v hx hv
    have:=qW.1 (qW.1 hpu cs (qQ hk)) x (qQ hj)
    rw [qN] at this
    exact ⟨r1,v,by simpa using hv,pu1_rel this.2 r2⟩
  have hpos:¬len*ei.n=0:=by
    have:=Nat.mul_pos hlen (show 0<ei.n by omega)
    omega
  have husz:us.size=len*ei.n:=by rw [k2,flat_len hmm,hl]
  refine ⟨.slice (some ⟨W.heap.size,0,none⟩) len len,us.toList,e,len,?_,fun F' μ' σ' hst hF' hσ hμ=>⟨?_,?_⟩⟩
  · have e3:us.toList.toArray=us:=by simp
    have hrun:=run_buildSlice (P:=P) W t e len (parts.map fun (p:Nat × Operand)=>(p.1,a.eval p.2)) us inf z (ht.slice hk) q1 q6 (by rw [q3];omega) (by rw [q3];exact hpos) (by rw [q3];exact k1)
    simp only [execOp,ho,Sem.run_bind,hrun,Result.andThen_ok,Sem.run_pure,e3]
  · have hk2 : RowC (W.alloc (.cells us.toList.toArray e)) F' ei.n els us.toList := by
      refine ⟨hrow.hm,hrow.n,fun k cs j x h1 h2=>?_⟩
      obtain ⟨r1,u,r2,r3⟩:=hrow.r k cs j x h1 h2
      exact ⟨r1,u,r2,r3.keep (fun b hb hlt=>Below.heap_alloc _ _ _ hlt) fun b hb _=>hF' b hb⟩
    refine hk2.body (heap_alloc_new W _) (Nat.le_of_eq hl) ?_ (by simp [husz]) (by
      rw [vY]
      simp [husz,hl])
    have:len<=len*ei.n:=Nat.le_mul_of_pos_right len (by omega)
    unfold maxLen
    omega
  · refine .row id _ 0 len _ (by rw [hσ];exact qJ _) rfl fun bd' m' l' hbd hL=>?_
    rw [hσ] at hbd
    obtain rfl:Body.row e ei.n els=bd':=by simpa using hbd
    obtain ⟨rfl,rfl⟩:ei.n=m'/\els.length=l':=by simpa [Body.rowL] using hL
    exact ⟨by omega,by rw [hμ];simp⟩
end
theorem row_owns {W : World} {F : Nat -> Prop} {μ : Mu} {σ : Sto} (hi : Inv W F μ σ) {id ep t m : Nat} {els : List (List AV)} (hid : σ id = ⟨ep, some (.row t m els)⟩) {v : Value} (hv : Rel W F μ σ (.row id ep 0 els.length) v) :
  ∃cells,W.ownsRow 0 t m v els.length cells/\RowC W F m els cells/\∀g,v.ownBlock=some g->∃c,μ id=some (g,c):=by
 obtain ⟨_,⟨rfl,rfl,_⟩ | ⟨b,cap,hm,rfl,q1,q2⟩⟩:=row_form hi hv hid
 ·exact ⟨[],World.ownsRow_nil W 0 t m,RowC.nil W F m,fun g h=>by simp [Value.ownBlock] at h⟩
 ·rcases hi.body _ _ _ hid with ⟨hn,_⟩ | ⟨b',cap',cur,hp,hh,r1,r2,r3,r4,r5⟩
  ·rw [hn] at hm;cases hm
  ·obtain ⟨rfl,rfl⟩:b=b'/\cap=cap':=by rw [hm] at hp;simpa using hp
   have hle:els.length*m<=cap*m:=Nat.mul_le_mul_right m r1
   refine ⟨cur.toList.take (els.length*m),⟨by simp;omega,.inr ⟨b,cap,cur,by simp,qP _,hh,r1,r2,r3,rfl⟩⟩,⟨r4,by simp;omega,fun k cs j x hk hj=>?_⟩,fun g h=>⟨cap,by rw [hm];simp [Value.ownBlock] at h;rw [h]⟩⟩
   obtain ⟨s1,u,s2,s3⟩:=r5 k cs j x hk hj
   have hlt:k*m+j<els.length*m:=by
    have h1:j<m:=by have:=(qC.1 hj).1;rw [r4 k cs hk] at this;exact this
    have h2:=Nat.mul_le_mul_right m (show k+1<=els.length from (qC.1 hk).1)
    rw [Nat.add_mul,Nat.one_mul] at h2
    omega
   exact ⟨s1,u,by rw [uB,if_pos hlt];simpa using s2,s3⟩
def Src (W:World) (F:Nat->Prop) (m:Nat) (els:List (List AV)) (v:Value):Prop :=
 ∃A c news,v = .slice A els.length c/\RowC W F m els news/\((∃ad,A=some ad/\∀(j:Nat) (u:Value),news[j]?=some u->W.cell? (ad.add j)=some u)\/els=[])
theorem src_sl {W:World} {F:Nat->Prop} {m:Nat} {els:List (List AV)} {v:Value} (h:PRel W F (.sl els) v) (hm:∀cs∈els,cs.length=m) (h0:0<m):Src W F m els v:=by
 cases h with
 | sl _ A c m' b off cell hc hmx hA hl hone hr hw =>
  by_cases hp:0<els.length
  ·obtain ⟨rfl,hF,hb⟩:=hA hp
   have hmm:m'=m:=by
    have h1:=qA hp
    rw [<- hl 0 _ h1]
    exact hm _ (qQ h1)
   subst hmm
   have cellAt:∀i,i<els.length*m'->∃u,W.cell? ⟨b,off+i,none⟩=some u:=fun i hi=>by
    have hk:i / m'<els.length:=(Nat.div_lt_iff_lt_mul h0).2 hi
    have hcs:=qA hk
    have hj:i % m'<els[i / m'].length:=by rw [hl _ _ hcs];exact Nat.mod_lt _ h0
    have:=hw _ _ _ _ hcs (qA hj)
    rw [show i / m'*m'+i % m'=i by rw [Nat.mul_comm];exact Nat.div_add_mod i m'] at this
    exact ⟨_,this⟩
   let news:=(List.range (els.length*m')).map fun i=>(W.cell? ⟨b,off+i,none⟩).getD undef
   have hn:∀(i:Nat) (u:Value),news[i]?=some u->W.cell? ⟨b,off+i,none⟩=some u:=fun i u hu=>by
    simp only [news,qE] at hu
    cases hq:(List.range (els.length*m'))[i]? with
    | none=>rw [hq] at hu;cases hu
    | some q =>
     rw [hq] at hu
     obtain ⟨hlt,e⟩:=qC.1 hq
     have e:i=q:=by simpa using e
     subst e
     obtain ⟨w,hw'⟩:=cellAt i (by simpa using hlt)
     simp only [Option.map_some,hw',Option.getD_some,qU] at hu
     rw [hw',hu]
   refine ⟨_,c,news,rfl,⟨hl,by simp [news],fun k cs j x hk hj=>?_⟩,.inl ⟨_,rfl,fun j u hu=>by rw [ca_ptr (W:=W)];exact hn j u hu⟩⟩
   have hlt:k*m'+j<els.length*m':=by
    have h1:j<m':=by have:=(qC.1 hj).1;rw [hl k cs hk] at this;exact this
    have h2:=Nat.mul_le_mul_right m' (show k+1<=els.length from (qC.1 hk).1)
    rw [Nat.add_mul,Nat.one_mul] at h2
    omega
   refine ⟨hone k cs j x hk hj,_,?_,hr k cs j x hk hj⟩
   simp only [news,qE,List.getElem?_range hlt,Option.map_some,hw k cs j x hk hj,Option.getD_some]
  ·have h0:els=[]:=List.eq_nil_of_length_eq_zero (by omega)
   subst h0
   exact ⟨A,c,[],rfl,RowC.nil W F m,.inr rfl⟩
theorem src_row {W:World} {F:Nat->Prop} {μ:Mu} {σ:Sto} (hi:Inv W F μ σ) {id ep t m:Nat} {els:List (List AV)} (hid:σ id=⟨ep,some (.row t m els)⟩) {v:Value} (hv:Rel W F μ σ (.row id ep 0 els.length) v):Src W F m els v:=by
 obtain ⟨cells,⟨hl,h⟩,hc,_⟩:=row_owns hi hid hv
 rcases h with ⟨rfl,h0⟩ | ⟨g,cap,cur,rfl,_,hh,h1,h2,h3,h4⟩
 ·have e:els=[]:=List.eq_nil_of_length_eq_zero h0
  subst e
  exact ⟨none,0,[],rfl,RowC.nil W F m,.inr rfl⟩
 ·refine ⟨_,cap,cells,rfl,hc,.inl ⟨_,rfl,fun j u hu=>?_⟩⟩
  rw [ca_ptr (W:=W),vL,cell_of_row _ g _ _ _ (0,0) hh]
  rw [<- h4,uB] at hu
  split at hu
  ·simpa using hu
  ·cases hu
section
variable {P : Program} {N : Nat} {o : Oper} {s : St}
theorem append_run {t ty e : Nat} {ti ei : TI} (ht : TiOk P t ti) (hk : ti.k = .slice e) (he : TiOk P e ei) (h0 : 0 < ei.n) {W : World} {F : Nat -> Prop} {v y : Value} {n : Nat} {els els2 : List (List AV)} {cells : List Value} (hown : W.ownsRow 0 e ei.n v els.length cells) (hc : RowC W F ei.n els cells) (hy : Src W F ei.n els2 y)
  (hb:(els.length+els2.length)*ei.sz<=140737488355328) (h63:els.length+els2.length<=9223372036854775807) :
  ∃v' W' cells',(Builtin.append_ #[t,t] ty #[v,y]).run P W = .ok v' W'/\W'.ownsRow 0 e ei.n v' (els++els2).length cells'/\(∃news,cells'=cells++news/\RowC W F ei.n els2 news)/\W.grownBy W' v.ownBlock/\(v'.ownBlock=v.ownBlock\/v'.ownBlock=some W.heap.size):=by
 obtain ⟨A,c,news,rfl,hn,hA⟩:=hy
 obtain ⟨inf,d,z,q1,q2,q3,q4,q5,q6,q7⟩:=he.h
 have hzl:z.cells.size=ei.n:=by rw [<- he.zl,<- qL];exact (zsOk_rel (W:=W) (F:=F) q7).1
 rcases hA with ⟨ad,rfl,hcell⟩ | rfl
 ·obtain ⟨v',W',hr,ho,hg,_,hat⟩:=run_append_own_at (P:=P) W 0 t ty e inf z ei.n ei.sz (ht.slice hk) q1 q6 q3 q4 hzl h0 v els.length cells hown ad els2.length c news hn.n hcell (hn.one h0) (by unfold maxLen;omega) hb (qP _)
  exact ⟨v',W',_,hr,by rw [qT];exact ho,⟨news,rfl,hn⟩,hg,hat⟩
 ·have e0:news=[]:=List.eq_nil_of_length_eq_zero (by rw [hn.n];simp)
  subst e0
  cases A with
  | some ad =>
   obtain ⟨v',W',hr,ho,hg,_,hat⟩:=run_append_own_at (P:=P) W 0 t ty e inf z ei.n ei.sz (ht.slice hk) q1 q6 q3 q4 hzl h0 v els.length cells hown ad 0 c [] (by simp) (by simp) (by simp) (by unfold maxLen;simp at h63;omega) (by simpa using hb) (qP _)
   exact ⟨v',W',_,hr,by rw [vW];simpa using ho,⟨[],rfl,hn⟩,hg,hat⟩
  | none =>
   refine ⟨v,W,cells,?_,by rw [vW];exact hown,⟨[],by simp,hn⟩,⟨rfl,rfl,rfl,qJ _,fun _ _ _=>rfl⟩,.inl rfl⟩
   rcases hown.2 with ⟨rfl,h1⟩ | ⟨g,cap,cur,rfl,_,_,hnc,_⟩
   ·simp [Builtin.append_,run_underlying (ht.slice hk),he.size,Builtin.lenOf,Builtin.firstCells]
   ·simp [Builtin.append_,run_underlying (ht.slice hk),he.size,Builtin.lenOf,Builtin.firstCells,hnc,storeCells]
theorem op_appendX {c : Call} {x y : Operand} {t e id : Nat} {ti ei : TI} {els els2 : List (List AV)} (ho : o.op = .call c) (hc : c.callee = .builtin .append) (ha : c.args = #[x, y]) (hat : c.argTypes = #[t, t]) (ht : TiOk P t ti) (hk : ti.k = .slice e) (he : TiOk P e ei) (h0 : (ei.n == 0) = false)
    (rd:List Nat) (hx:(∃ep,s.ev x = .row id ep 0 els.length/\s.σ id=⟨ep,some (.row e ei.n els)⟩)\/(s.ev x = .raw (.slice none 0 0)/\els=[]))
    (hy:∀(s':St) W F μ v,(∀i∈rd,s'.σ i=s.σ i)->Inv W F μ s'.σ->Rel W F μ s'.σ (s.ev y) v->Src W F ei.n els2 v)
    (hb:(els.length+els2.length)*ei.sz<=140737488355328) (h63:els.length+els2.length<=9223372036854775807) {r:List (List AV)} (hr:els++els2=r) {n:Nat} (hn:r.length=n) :
    OpLoc P N o s ⟨.row id ((s.σ id).ep+1) 0 n,[(id,⟨(s.σ id).ep+1,some (.row e ei.n r)⟩)],rd⟩:=by
  subst hr hn
  intro s' g1 g2 g3 W F μ a hr K Q hK
  have hid:s'.σ id=s.σ id:=g3 (id,⟨(s.σ id).ep+1,some (.row e ei.n (els++els2))⟩) (by simp)
  have h0' : 0 < ei.n := by have : ¬ ei.n = 0 := by simpa using h0
                            omega
  have opers:o.op.operands.toList=[x,y]:=by rw [ho];simp [Op.operands,Call.operands,hc,ha]
  have ex:=hr.ev x
  rw [g1 x (by rw [opers];simp)] at ex
  have ey:=hr.ev y
  rw [g1 y (by rw [opers];simp)] at ey
  have hsrc:=hy s' W F μ _ g2 hr.inv ey
  have hown:∃cells,W.ownsRow 0 e ei.n (a.eval x) els.length cells/\RowC W F ei.n els cells/\∀g,(a.eval x).ownBlock=some g->(s'.σ id).body.isSome=true/\∃c,μ id=some (g,c):=by
    rcases hx with ⟨ep,hx1,hx2⟩ | ⟨hx1,rfl⟩
    · rw [hx1] at ex
      obtain ⟨cells,h1,h2,h3⟩:=row_owns hr.inv (hid.trans hx2) ex
      exact ⟨cells,h1,h2,fun g hg=>⟨by rw [hid,hx2];rfl,h3 g hg⟩⟩
    · rw [hx1] at ex
      rw [ex.raw']
      exact ⟨[],World.ownsRow_nil W 0 e ei.n,RowC.nil W F ei.n,fun g hg=>by simp [Value.ownBlock] at hg⟩
  obtain ⟨cells,h1,h2,h3⟩:=hown
  obtain ⟨v',W',cells',hrun,ho',⟨news,rfl,hnews⟩,hg,hatb⟩:=append_run (P:=P) (ty:=o.type) (n:=0) ht hk he h0' h1 h2 hsrc hb h63
  have hk':Kp (fun b=>(s'.σ id).body.isSome=true/\∃c,μ id=some (b,c)) W W':=(Kp.refl _ W).grown hg fun k hk=>.inl (h3 k hk)
  -- where the new row lies
  have hp : ∃ p' : Option (Nat × Nat), (∀ b c, p' = some (b, c) -> b < W'.heap.size /\ (W.heap.size <= b \/ ((s'.σ id).body.isSome = true /\ ∃ c', μ id = some (b, c')))) /\
      (∀F μ' σ',RowC W' F ei.n (els++els2) (cells++news)->BodyRel W' F μ' σ' p' (.row e ei.n (els++els2)))/\RowV p' ei.n 0 (els++els2).length (els++els2).length v'/\v'.oneCell'=true:=by
    rcases ho'.2 with ⟨rfl,hz⟩ | ⟨g,cap,cur,rfl,_,hh,r1,r2,r3,r4⟩
    · have e0:=List.eq_nil_of_length_eq_zero hz
      exact ⟨none,fun b c h=>(by cases h),fun F μ' σ' _=>.inl ⟨rfl,e0⟩,⟨by omega,rfl⟩,rfl⟩
    · refine ⟨some (g,cap),fun b c h=>?_,fun F μ' σ' hc=>hc.body hh r1 r2 r3 r4,⟨by omega,by simp⟩,rfl⟩
      obtain ⟨rfl,rfl⟩:g=b/\cap=c:=by simpa using h
      refine ⟨(qI.1 hh).1,?_⟩
      rcases hatb with h | h
      · exact .inr (h3 g (by rw [<- h];rfl))
      · have:W.heap.size=g:=by simp [Value.ownBlock] at h;exact h.symm
        exact .inl (by omega)
  obtain ⟨p',p1,p2,p3,p4⟩:=hp
  obtain ⟨hs,hi⟩:=inv_turn hr.inv id p' ((s.σ id).ep+1) (.row e ei.n (els++els2)) hk' p1 (.inl (by rw [hid];omega)) (fun hs=>p2 _ _ _ ((h2.append hnews).stp hr.inv hs))
  unfold Oper.wp
  have hrun':(execOp a.eval o).run P W = .ok (.value v') W':=by
    simp only [execOp,ho,resolve,hc,ha,hat,List.map_toArray,vB,List.map_nil,Sem.run_bind,Sem.run_pure,Result.andThen_ok,invoke,builtin,hrun]
  rw [hrun']
  refine hK W' F (upm μ id p') _ (hr.put hs hi (.row id _ 0 _ _ ?_ p4 fun bd' m' l' hbd hL=>?_)) hs
  · rw [up1_eq,if_pos rfl]
    exact qJ _
  · rw [up1_eq,if_pos rfl] at hbd
    obtain rfl:Body.row e ei.n (els++els2)=bd':=by simpa using hbd
    obtain ⟨rfl,rfl⟩:ei.n=m'/\(els++els2).length=l':=by simpa only [Body.rowL,qU,qZ] using hL
    rw [upm_eq,if_pos rfl]
    exact p3
theorem op_appendS {c : Call} {x y : Operand} {t e id : Nat} {ti ei : TI} {els els2 : List (List AV)} (ho : o.op = .call c) (hc : c.callee = .builtin .append) (ha : c.args = #[x, y]) (hat : c.argTypes = #[t, t]) (ht : TiOk P t ti) (hk : ti.k = .slice e) (he : TiOk P e ei) (h0 : (ei.n == 0) = false)
    (hx:(∃ep,s.ev x = .row id ep 0 els.length/\s.σ id=⟨ep,some (.row e ei.n els)⟩)\/(s.ev x = .raw (.slice none 0 0)/\els=[]))
    (hy:s.ev y = .sl els2) (hm:∀cs∈els2,cs.length=ei.n) (hb:(els.length+els2.length)*ei.sz<=140737488355328) (h63:els.length+els2.length<=9223372036854775807) {r:List (List AV)} (hr:els++els2=r) {n:Nat} (hn:r.length=n) :
    OpLoc P N o s ⟨.row id ((s.σ id).ep+1) 0 n,[(id,⟨(s.σ id).ep+1,some (.row e ei.n r)⟩)],[]⟩ :=
  op_appendX ho hc ha hat ht hk he h0 [] hx (fun s' W F μ v _ hi hv=>by
    rw [hy] at hv
    exact src_sl hv.sl' hm (by have : ¬ ei.n = 0 := by simpa using h0
                               omega)) hb h63 hr hn
theorem op_appendR {c:Call} {x y:Operand} {t e id id2 ep2:Nat} {ti ei:TI} {els els2:List (List AV)} (ho:o.op = .call c) (hc:c.callee = .builtin .append) (ha:c.args = #[x,y]) (hat:c.argTypes = #[t,t]) (ht:TiOk P t ti) (hk:ti.k = .slice e) (he:TiOk P e ei) (h0:(ei.n == 0)=false)
  (hx:(∃ep,s.ev x = .row id ep 0 els.length/\s.σ id=⟨ep,some (.row e ei.n els)⟩)\/(s.ev x = .raw (.slice none 0 0)/\els=[]))
  (hy:s.ev y = .row id2 ep2 0 els2.length) (hid2:s.σ id2=⟨ep2,some (.row e ei.n els2)⟩) (hb:(els.length+els2.length)*ei.sz<=140737488355328) (h63:els.length+els2.length<=9223372036854775807) {r:List (List AV)} (hr:els++els2=r) {n:Nat} (hn:r.length=n) :
  OpLoc P N o s ⟨.row id ((s.σ id).ep+1) 0 n,[(id,⟨(s.σ id).ep+1,some (.row e ei.n r)⟩)],[id2]⟩ :=
 op_appendX ho hc ha hat ht hk he h0 [id2] hx (fun s' W F μ v h2 hi hv=>by
  rw [hy] at hv
  exact src_row hi ((h2 id2 (by simp)).trans hid2) hv) hb h63 hr hn
end
def caA (σ:Sto):AV->Option (List AV × List Nat)
 | .ro cs=>some (cs,[])
 | .own id ep off=>match σ id with
  | ⟨ep',some (.box _ cs)⟩=>cond (Nat.beq ep' ep) (some (cs.drop off,[id])) none
  | _=>none
 | _=>none
theorem caA_ok {σ:Sto} {x:AV} {cs:List AV} {l:List Nat} (h:caA σ x=some (cs,l)):CA σ x cs l:=by
 unfold caA at h
 split at h
 ·simp only [qU,qZ] at h
  obtain ⟨rfl,rfl⟩:=h
  exact .ro _
 ·split at h
  ·rename_i id ep off sb ep' t cs' e
   cases hb:Nat.beq ep' ep with
   | false=>rw [hb] at h;cases h
   | true =>
    rw [hb,cond_true] at h
    simp only [qU,qZ] at h
    obtain ⟨rfl,rfl⟩:=h
    obtain rfl:=qY hb
    exact .own e
  ·cases h
 ·cases h
def isNilB:AV->Bool
 | .raw (.slice none 0 0)=>true
 | _=>false
theorem isNilB_ok {x:AV} (h:isNilB x=true):x = .raw (.slice none 0 0):=by
 unfold isNilB at h
 split at h
 ·rfl
 ·cases h
theorem cond_none {α:Type} {c:Bool} {x:Option α} {r:α} (h:cond c x none=some r):c=true/\x=some r:=by
 cases c
 ·cases h
 ·exact ⟨rfl,h⟩
def fzA (σ:Sto):Nat->AV->Option (AV × List Nat)
 | 0,_=>none
 | k+1,x=>match x with
  | .b _ | .i _ _ | .u _ | .y _ | .s _ | .sl _ | .ro _ | .any=>some (x,[])
  | .raw v=>cond (isNilB (.raw v)) (some (.sl [],[])) (some (.raw v,[]))
  | .row id ep off n=>match σ id with
   | ⟨ep',some (.row _ _ els)⟩=>cond (Nat.beq ep' ep) (some (.sl ((els.drop off).take n),[id])) none
   | _=>none
  | .own id ep off=>match σ id with
   | ⟨ep',some (.box _ cs)⟩=>cond (Nat.beq ep' ep) (match cs.foldr (fun c acc=>match fzA σ k c,acc with | some (y,l),some (ys,l')=>some (y::ys,l++l') | _,_=>none) (some ([],[])) with
     | some (cs',l)=>some (.ro (cs'.drop off),id::l)
     | none=>none) none
   | _=>none
  | .ref id ep (.sl off n cap)=>match σ id with
   | ⟨ep',some (.box _ cs)⟩=>cond (Nat.beq ep' ep && Nat.ble (off+n) cs.length && Nat.ble n cap && Nat.ble cap 1000000) (match cs.foldr (fun c acc=>match fzA σ k c,acc with | some (y,l),some (ys,l')=>some (y::ys,l++l') | _,_=>none) (some ([],[])) with
     | some (cs',l)=>some (.sl (((cs'.drop off).take n).map fun c=>[c]),id::l)
     | none=>none) none
   | _=>none
  | .agg cs=>match cs.foldr (fun c acc=>match fzA σ k c,acc with | some (y,l),some (ys,l')=>some (y::ys,l++l') | _,_=>none) (some ([],[])) with
   | some (cs',l)=>some (.agg cs',l)
   | none=>none
  | .tup cs=>match cs.foldr (fun c acc=>match fzA σ k c,acc with | some (y,l),some (ys,l')=>some (y::ys,l++l') | _,_=>none) (some ([],[])) with
   | some (cs',l)=>some (.tup cs',l)
   | none=>none
  | .fn f a c=>match a.foldr (fun c acc=>match fzA σ k c,acc with | some (y,l),some (ys,l')=>some (y::ys,l++l') | _,_=>none) (some ([],[])),c.foldr (fun c acc=>match fzA σ k c,acc with | some (y,l),some (ys,l')=>some (y::ys,l++l') | _,_=>none) (some ([],[])) with
   | some (a',l),some (c',l')=>some (.fn f a' c',l++l')
   | _,_=>none
  | _=>none
def fzL (σ:Sto) (k:Nat) (xs:List AV):Option (List AV × List Nat):=xs.foldr (fun c acc=>match fzA σ k c,acc with | some (y,l),some (ys,l')=>some (y::ys,l++l') | _,_=>none) (some ([],[]))
theorem fzL_of {σ:Sto} {k:Nat} (ih:∀{x y:AV} {l:List Nat},fzA σ k x=some (y,l)->Fz σ x y l):∀{xs ys:List AV} {l:List Nat},fzL σ k xs=some (ys,l)->FzL σ xs ys l
 | [],ys,l,h=>by
  simp only [fzL,List.foldr_nil,qU,qZ] at h
  obtain ⟨rfl,rfl⟩:=h
  exact .nil
 | x::xs,ys,l,h=>by
  unfold fzL at h
  rw [List.foldr_cons] at h
  split at h
  ·rename_i y l1 ys' l2 h1 h2
   simp only [qU,qZ] at h
   obtain ⟨rfl,rfl⟩:=h
   exact .cons (ih h1) (fzL_of ih h2)
  ·cases h
theorem fzA_ok {σ:Sto}:∀(k:Nat) {x y:AV} {l:List Nat},fzA σ k x=some (y,l)->Fz σ x y l
 | 0,x,y,l,h=>by cases h
 | k+1,x,y,l,h=>by
  have ihl:∀{xs ys:List AV} {l:List Nat},fzL σ k xs=some (ys,l)->FzL σ xs ys l:=fzL_of (fzA_ok k)
  cases x with
  | raw v =>
   simp only [fzA] at h
   cases hb:isNilB (.raw v) with
   | true =>
    rw [hb] at h
    simp only [cond_true,qU,qZ] at h
    obtain ⟨rfl,rfl⟩:=h
    rw [isNilB_ok hb]
    exact .nils
   | false =>
    rw [hb] at h
    simp only [cond_false,qU,qZ] at h
    obtain ⟨rfl,rfl⟩:=h
    exact .raw v
  | row id ep off n =>
   simp only [fzA] at h
   split at h
   ·rename_i ep' t m els hs
    obtain ⟨hb,h'⟩:=cond_none h
    clear h
    obtain rfl:=qY hb
    simp only [qU,qZ] at h'
    obtain ⟨rfl,rfl⟩:=h'
    exact .row hs rfl
   ·cases h
  | own id ep off =>
   simp only [fzA] at h
   split at h
   ·rename_i ep' t cs hs
    obtain ⟨hb,h'⟩:=cond_none h
    clear h
    obtain rfl:=qY hb
    split at h'
    ·rename_i cs' l' hq
     simp only [qU,qZ] at h'
     obtain ⟨rfl,rfl⟩:=h'
     exact .own hs (ihl hq)
    ·cases h'
   ·cases h
  | agg cs =>
   simp only [fzA] at h
   split at h
   ·rename_i cs' l' hq
    simp only [qU,qZ] at h
    obtain ⟨rfl,rfl⟩:=h
    exact .agg (ihl hq)
   ·cases h
  | tup cs =>
   simp only [fzA] at h
   split at h
   ·rename_i cs' l' hq
    simp only [qU,qZ] at h
    obtain ⟨rfl,rfl⟩:=h
    exact .tup (ihl hq)
   ·cases h
  | fn f a c =>
   simp only [fzA] at h
   split at h
   ·rename_i a' l1 c' l2 hq1 hq2
    simp only [qU,qZ] at h
    obtain ⟨rfl,rfl⟩:=h
    exact .fn (ihl hq1) (ihl hq2)
   ·cases h
  | ref id ep kd =>
   cases kd with
   | map=>cases h
   | sl off n cap =>
    simp only [fzA] at h
    split at h
    ·rename_i ep' t cs hs
     obtain ⟨hb,h'⟩:=cond_none h
     clear h
     simp only [qN] at hb
     obtain ⟨⟨⟨hb,b1⟩,b2⟩,b3⟩:=hb
     obtain rfl:=qY hb
     split at h'
     ·rename_i cs' l' hq
      simp only [qU,qZ] at h'
      obtain ⟨rfl,rfl⟩:=h'
      exact .refsl hs (ihl hq) (qV b1) (qV b2) (vJ (qV b3) (by decide))
     ·cases h'
    ·cases h
  | el=>cases h
  | any=>simp only [fzA,qU,qZ] at h;obtain ⟨rfl,rfl⟩:=h;exact .any
  | b x=>simp only [fzA,qU,qZ] at h;obtain ⟨rfl,rfl⟩:=h;exact .b x
  | i k n=>simp only [fzA,qU,qZ] at h;obtain ⟨rfl,rfl⟩:=h;exact .i k n
  | u x=>simp only [fzA,qU,qZ] at h;obtain ⟨rfl,rfl⟩:=h;exact .u x
  | y x=>simp only [fzA,qU,qZ] at h;obtain ⟨rfl,rfl⟩:=h;exact .y x
  | s x=>simp only [fzA,qU,qZ] at h;obtain ⟨rfl,rfl⟩:=h;exact .s x
  | sl x=>simp only [fzA,qU,qZ] at h;obtain ⟨rfl,rfl⟩:=h;exact .sl x
  | ro x=>simp only [fzA,qU,qZ] at h;obtain ⟨rfl,rfl⟩:=h;exact .ro x
theorem fzL_ok {σ:Sto} {k:Nat} {xs ys:List AV} {l:List Nat} (h:fzL σ k xs=some (ys,l)):FzL σ xs ys l:=fzL_of (fzA_ok k) h
def chunks {α:Type} (n:Nat):Nat->List α->List (List α)
 | 0,_=>[]
 | k+1,l=>l.take n::chunks n k (l.drop n)
theorem chunks_flat {α:Type} (n:Nat):∀(k:Nat) (l:List α),l.length=k*n->(chunks n k l).flatten=l
 | 0,l,h=>by
  simp only [Nat.zero_mul,uA] at h
  rw [h];rfl
 | k+1,l,h=>by
  rw [chunks,uJ,chunks_flat n k _ (by rw [uK,h,Nat.add_mul];omega),uU]
theorem chunks_len {α:Type} (n:Nat):∀(k:Nat) (l:List α),(chunks n k l).length=k
 | 0,l=>rfl
 | k+1,l=>by rw [chunks,qR,chunks_len n k]
def lenA (T:TT) (σ:Sto) (t:Nat) (x:AV):Option Eff :=
 match tget T t with
 | some ti=>match ti.k,x with
  | .slice _,.sl els=>some ⟨.i .i64 els.length,[],[]⟩
  | .slice _,.row id ep off n=>match σ id with
   | ⟨ep',some (.row _ _ _)⟩=>cond (Nat.beq ep' ep) (some ⟨.i .i64 n,[],[id]⟩) none
   | _=>none
  | .slice _,x=>cond (isNilB x) (some ⟨.i .i64 ((0:Nat):Int),[],[]⟩) none
  | .str,.s l=>some ⟨.i .i64 l.length,[],[]⟩
  | _,_=>none
 | none=>none
def newId (B:Nat) (o:Oper):Nat:=match o.dst with | some d=>B+d | none=>B
def stp (T:TT) (B:Nat) (o:Oper) (s:St):Option Eff :=
 match o.op with
 | .move x | .assign x=>some ⟨s.ev x,[],[]⟩
 | .pick c x y=>match s.ev c with
  | .b z=>some ⟨cond z (s.ev x) (s.ev y),[],[]⟩
  | _=>none
 | .binOp op t x y _=>match binA op (s.ev x) (s.ev y) with
  | some r=>some ⟨r,[],[]⟩
  | none=>match s.ev x,s.ev y,op,tget T t with
   | .b p,.b q,.eql,some ⟨.bool,_,_,_⟩=>some ⟨.b (p == q),[],[]⟩
   | .b p,.b q,.neq,some ⟨.bool,_,_,_⟩=>some ⟨.b (!(p == q)),[],[]⟩
   | x,.raw (.pointer none),.eql,some ⟨.ptr,_,_,_⟩=>match nilP s.σ x with
    | some (b,l)=>some ⟨.b b,[],l⟩
    | none=>none
   | x,.raw (.pointer none),.neq,some ⟨.ptr,_,_,_⟩=>match nilP s.σ x with
    | some (b,l)=>some ⟨.b (!b),[],l⟩
    | none=>none
   | x,.raw (.slice none 0 0),.eql,some ⟨.slice _,_,_,_⟩=>match nilS x with
    | some b=>some ⟨.b b,[],[]⟩
    | none=>none
   | x,.raw (.slice none 0 0),.neq,some ⟨.slice _,_,_,_⟩=>match nilS x with
    | some b=>some ⟨.b (!b),[],[]⟩
    | none=>none
   | _,_,_,_=>none
 | .unOp op _ x=>match unA op (s.ev x) with
  | some r=>some ⟨r,[],[]⟩
  | none=>none
 | .extract x i=>match s.ev x with
  | .tup xs=>match xs[i]? with
   | some r=>some ⟨r,[],[]⟩
   | none=>none
  | _=>none
 | .makeFunc (.func f) first caps=>some ⟨.fn f (first.toList.map s.ev) (caps.toList.map s.ev),[],[]⟩
 | .nilCheck x=>match s.ev x with
  | .fn f a c=>some ⟨.fn f a c,[],[]⟩
  | p=>match caA s.σ p with
   | some (_,l)=>some ⟨p,[],l⟩
   | none=>none
 | .load t p=>match tget T t,caA s.σ (s.ev p) with
  | some ti,some (cs,l)=>match ldA ti cs with
   | some r=>some ⟨r,[],l⟩
   | none=>none
  | _,_=>none
 | .fieldAddr t p f=>match tget T t,caA s.σ (s.ev p) with
  | some ⟨.strct fs,_,_,_⟩,some (_,l)=>match fs[f]? with
   | some (ft,off)=>match tget T ft,fldA off (s.ev p) with
    | some fi,some r=>cond (fi.n == 0) none (some ⟨r,[],l⟩)
    | _,_=>none
   | none=>none
  | _,_=>none
 | .indexAddr t x i=>match tget T t,s.ev i,caA s.σ (s.ev x) with
  | some ⟨.arr n e,_,_,_⟩,.i _ (.ofNat k),some (_,l)=>match tget T e with
   | some ei=>match fldA (k*ei.n) (s.ev x) with
    | some r=>cond (Nat.blt k n) (some ⟨r,[],l⟩) none
    | none=>none
   | none=>none
  | _,_,_=>none
 | .field t x f=>match tget T t,s.ev x with
  | some ⟨.strct fs,_,_,_⟩,.agg cs=>match fs[f]? with
   | some (ft,off)=>match tget T ft with
    | some fi=>match prtA fi off cs with
     | some r=>some ⟨r,[],[]⟩
     | none=>none
    | none=>none
   | none=>none
  | _,_=>none
 | .convert t u x=>match tget T t,tget T u with
  | some _,some ⟨.int k,_,_,_⟩=>match cvA k (s.ev x) with
   | some r=>some ⟨r,[],[]⟩
   | none=>none
  | _,_=>none
 | .box t x=>match s.σ (newId B o) with
  | ⟨e,_⟩=>cond ((s.ev x).cells.all AV.one) (some ⟨.own (newId B o) (e+1) 0,[(newId B o,⟨e+1,some (.box t (s.ev x).cells)⟩)],[]⟩) none
 | .alloc t=>match tget T t,s.σ (newId B o) with
  | some ti,⟨e,_⟩=>some ⟨.own (newId B o) (e+1) 0,[(newId B o,⟨e+1,some (.box t ti.z)⟩)],[]⟩
  | none,_=>none
 | .build t parts=>match tget T t with
  | some ⟨.strct fs,n,sz,z⟩=>cond (fs.all fun p=>(tget T p.1).isSome) (match fillA (plS T fs) z (parts.toList.map fun p=>(p.1,s.ev p.2)) with
    | some r=>cond (r.all AV.one) (some ⟨.agg r,[],[]⟩) none
    | none=>none) none
  | _=>none
 | .store t p x=>match tget T t,s.ev p with
  | some ti,.own id ep off=>match s.σ id with
   | ⟨ep',some (.box ty cs)⟩=>cond (Nat.beq ep' ep && (s.ev x).cells.all AV.one && Nat.beq (s.ev x).cells.length ti.n && Nat.ble (off+ti.n) cs.length)
     (some ⟨.tup [],[(id,⟨ep,some (.box ty (ovw cs off (s.ev x).cells))⟩)],[]⟩) none
   | _=>none
  | _,_=>none
 | .buildSlice t len parts=>match tget T t with
  | some ⟨.slice e,_,_,_⟩=>match tget T e,fzL s.σ 6 (parts.toList.map fun p=>s.ev p.2) with
   | some ei,some (xs,l)=>match fillA (fun i=>some (i*ei.n,ei.n)) (List.replicate len ei.z).flatten ((parts.toList.map (·.1)).zip xs) with
    | some r=>match s.σ (newId B o) with
     | ⟨ep,_⟩=>cond (Nat.blt 0 ei.n && Nat.blt 0 len && Nat.ble (len*ei.n) 16777216 && Nat.beq r.length (len*ei.n) && (chunks ei.n len r).all (fun cs=>Nat.beq cs.length ei.n) && (chunks ei.n len r).all (fun cs=>cs.all fun x=>x.one && x.pu1))
      (some ⟨.row (newId B o) (ep+1) 0 len,killS s.σ l++[(newId B o,⟨ep+1,some (.row e ei.n (chunks ei.n len r))⟩)],[]⟩) none
    | none=>none
   | _,_=>none
  | _=>none
 | .call ⟨.builtin .len,args,ats⟩=>match args.toList,ats.toList with
  | [x],[t]=>lenA T s.σ t (s.ev x)
  | _,_=>none
 | .call ⟨.builtin .max,args,ats⟩=>match args.toList,ats.toList with
  | [x,y],[_,_]=>match s.ev x,s.ev y with
   | .i k m,.i _ n=>some ⟨.i k (max m n),[],[]⟩
   | _,_=>none
  | _,_=>none
 | .call ⟨.builtin .min,args,ats⟩=>match args.toList,ats.toList with
  | [x,y],[_,_]=>match s.ev x,s.ev y with
   | .i k m,.i _ n=>some ⟨.i k (min m n),[],[]⟩
   | _,_=>none
  | _,_=>none
 | _=>none
theorem lenA_ok {P:Program} {N:Nat} {T:TT} (hT:tabB P T=true) {o:Oper} {s:St} {c:Call} {x:Operand} {t:Nat} {E:Eff} (ho:o.op = .call c) (hc:c.callee = .builtin .len) (ha:c.args = #[x]) (hat:c.argTypes = #[t]) (h:lenA T s.σ t (s.ev x)=some E):OpLoc P N o s E:=by
 unfold lenA at h
 split at h
 ·rename_i ti hti
  have ht:=tab_ok hT hti
  split at h
  ·rename_i e els hk hx
   obtain rfl:=qB h
   exact op_len ho hc ha hat ht hk hx
  ·rename_i e id ep off n hk hx
   split at h
   ·rename_i ep' a b cc hs
    obtain ⟨hb,h⟩:=cond_none h
    obtain rfl:=qB h
    obtain rfl:=qY hb
    exact op_lenR ho hc ha hat ht hk hx hs
   ·cases h
  ·rename_i hk _ _
   obtain ⟨hb,h⟩:=cond_none h
   obtain rfl:=qB h
   exact op_lenN ho hc ha hat ht hk (isNilB_ok hb)
  ·rename_i l hk hx
   obtain rfl:=qB h
   exact op_lenS ho hc ha hat ht hk hx
  ·cases h
 ·cases h
theorem arr_one {α:Type} {a:Array α} {x:α} (h:a.toList=[x]):a = #[x]:=by
 apply Array.toList_inj.1
 rw [h]
theorem arr_two {α:Type} {a:Array α} {x y:α} (h:a.toList=[x,y]):a = #[x,y]:=by
 apply Array.toList_inj.1
 rw [h]
theorem stp_plain {T:TT} {B:Nat} {o:Oper} {s:St} {E:Eff} (h:stp T B o s=some E):noDef o=true/\isVal o=false:=by
 obtain ⟨dst,op,ty,pos,after,guard⟩:=o
 cases op with
 | defer c=>simp [stp] at h
 | call c =>
  obtain ⟨callee,args,at'⟩:=c
  cases callee with
  | value f=>simp [stp] at h
  | invoke r n=>simp [stp] at h
  | builtin b=>cases b <;> first | exact ⟨rfl,rfl⟩ | (simp [stp] at h;done)
 | _=>exact ⟨rfl,rfl⟩
theorem stp_ok {P:Program} {N:Nat} {T:TT} (hT:tabB P T=true) {B:Nat} {o:Oper} {s:St} {E:Eff} (h:stp T B o s=some E):OpLoc P N o s E:=by
 unfold stp at h
 split at h
 ·rename_i x ho
  obtain rfl:=qB h
  exact op_move ho
 ·rename_i x ho
  obtain rfl:=qB h
  exact op_assign ho
 ·rename_i c x y ho
  split at h
  ·rename_i z hz
   obtain rfl:=qB h
   exact op_pick ho hz
  ·cases h
 ·rename_i op t x y yt ho
  split at h
  ·rename_i r hr
   obtain rfl:=qB h
   exact op_bin ho hr
  ·split at h
   ·rename_i p q n sz z hx hy ht _
    obtain rfl:=qB h
    exact op_eqB ho (tab_ok hT ht) rfl hx hy (.inl ⟨rfl,rfl⟩)
   ·rename_i p q n sz z hx hy ht _
    obtain rfl:=qB h
    exact op_eqB ho (tab_ok hT ht) rfl hx hy (.inr ⟨rfl,rfl⟩)
   ·rename_i hy ht _
    split at h
    ·rename_i b l hn
     obtain rfl:=qB h
     exact op_eqP ho (tab_ok hT ht) rfl hn hy (.inl ⟨rfl,rfl⟩)
    ·cases h
   ·rename_i hy ht _
    split at h
    ·rename_i b l hn
     obtain rfl:=qB h
     exact op_eqP ho (tab_ok hT ht) rfl hn hy (.inr ⟨rfl,rfl⟩)
    ·cases h
   ·rename_i hy ht _
    split at h
    ·rename_i b hn
     obtain rfl:=qB h
     exact op_eqSl ho (tab_ok hT ht) rfl hn hy (.inl ⟨rfl,rfl⟩)
    ·cases h
   ·rename_i hy ht _
    split at h
    ·rename_i b hn
     obtain rfl:=qB h
     exact op_eqSl ho (tab_ok hT ht) rfl hn hy (.inr ⟨rfl,rfl⟩)
    ·cases h
   ·cases h
 ·rename_i op t x ho
  split at h
  ·rename_i r hr
   obtain rfl:=qB h
   exact op_un ho hr
  ·cases h
 ·rename_i x i ho
  split at h
  ·rename_i xs hx
   split at h
   ·rename_i r hr
    obtain rfl:=qB h
    exact op_extract ho hx hr
   ·cases h
  ·cases h
 ·rename_i f first caps ho
  obtain rfl:=qB h
  exact op_makeFunc ho
 ·rename_i x ho
  split at h
  ·rename_i f a c hx
   obtain rfl:=qB h
   rw [<- hx]
   exact op_nilCheckF ho hx
  ·split at h
   ·rename_i cs l hc
    obtain rfl:=qB h
    exact op_nilCheck ho (caA_ok hc)
   ·cases h
 ·rename_i t p ho
  split at h
  ·rename_i ti cs l ht hc
   split at h
   ·rename_i r hr
    obtain rfl:=qB h
    exact op_load ho (tab_ok hT ht) (caA_ok hc) hr
   ·cases h
  ·cases h
 ·rename_i t p f ho
  split at h
  ·rename_i fs n sz z cs l ht hc
   split at h
   ·rename_i ft off hf
    split at h
    ·rename_i fi r hfi hr
     cases hb:(fi.n == 0) with
     | true=>rw [hb] at h;cases h
     | false =>
      rw [hb,cond_false] at h
      obtain rfl:=qB h
      exact op_fieldAddr ho (tab_ok hT ht) rfl hf (tab_ok hT hfi) hb (caA_ok hc) hr
    ·cases h
   ·cases h
  ·cases h
 ·rename_i t x i ho
  split at h
  ·rename_i n e sz nn z kd k cs l ht hi hc
   split at h
   ·rename_i ei hei
    split at h
    ·rename_i r hr
     obtain ⟨hb,h⟩:=cond_none h
     obtain rfl:=qB h
     exact op_indexA ho (tab_ok hT ht) rfl (tab_ok hT hei) hi (qV hb) (caA_ok hc) hr
    ·cases h
   ·cases h
  ·cases h
 ·rename_i t x f ho
  split at h
  ·rename_i fs n sz z cs ht hx
   split at h
   ·rename_i ft off hf
    split at h
    ·rename_i fi hfi
     split at h
     ·rename_i r hr
      obtain rfl:=qB h
      exact op_field ho (tab_ok hT ht) rfl hf (tab_ok hT hfi) hx hr
     ·cases h
    ·cases h
   ·cases h
  ·cases h
 ·rename_i t u x ho
  split at h
  ·rename_i ti k n sz z ht hu
   split at h
   ·rename_i r hr
    obtain rfl:=qB h
    exact op_conv ho (tab_ok hT ht) (tab_ok hT hu) rfl hr
   ·cases h
  ·cases h
 ·rename_i t x ho
  split at h
  rename_i e bd hs
  obtain ⟨hb,h⟩:=cond_none h
  obtain rfl:=qB h
  have he:(s.σ (newId B o)).ep=e:=by rw [hs]
  rw [<- he]
  exact op_box ho rfl hb
 ·rename_i t ho
  split at h
  ·rename_i ti e bd ht hs
   obtain rfl:=qB h
   have he:(s.σ (newId B o)).ep=e:=by rw [hs]
   rw [<- he]
   exact op_alloc ho (tab_ok hT ht)
  ·cases h
 ·rename_i t parts ho
  split at h
  ·rename_i fs n sz z ht
   obtain ⟨hb,h⟩:=cond_none h
   split at h
   ·rename_i r hr
    obtain ⟨hb',h⟩:=cond_none h
    obtain rfl:=qB h
    exact op_build hT ho ht rfl hb hr hb'
   ·cases h
  ·cases h
 ·rename_i t p x ho
  split at h
  ·rename_i ti id ep off ht hp
   split at h
   ·rename_i ep' ty cs hs
    obtain ⟨hb,h⟩:=cond_none h
    obtain rfl:=qB h
    simp only [qN] at hb
    obtain ⟨⟨⟨h1,h2⟩,h3⟩,h4⟩:=hb
    obtain rfl:=qY h1
    exact op_store ho (tab_ok hT ht) hp hs rfl h2 (qY h3) (qV h4)
   ·cases h
  ·cases h
 ·rename_i t len parts ho
  split at h
  ·rename_i e n0 sz z ht
   split at h
   ·rename_i ei xs l hei hz
    split at h
    ·rename_i r hr
     split at h
     rename_i ep bd hs
     obtain ⟨hb,h⟩:=cond_none h
     obtain rfl:=qB h
     simp only [qN] at hb
     obtain ⟨⟨⟨⟨⟨h1,h2⟩,h3⟩,h4⟩,h5⟩,h6⟩:=hb
     have he:(s.σ (newId B o)).ep=ep:=by rw [hs]
     rw [<- he]
     have g1:0<ei.n:=qV h1
     exact op_buildSlice ho (tab_ok hT ht) rfl (tab_ok hT hei) (by simpa using Nat.ne_of_gt g1) (qV h2) (qV h3) (fzL_ok hz) (by rw [hr,chunks_flat _ _ _ (qY h4)]) (chunks_len _ _ _) h5 h6
    ·cases h
   ·cases h
  ·cases h
 ·rename_i args ats ho
  split at h
  ·rename_i x t ha hat
   exact lenA_ok hT ho rfl (arr_one ha) (arr_one hat) h
  ·cases h
 ·rename_i args ats ho
  split at h
  ·rename_i x y t u ha hat
   split at h
   ·rename_i k m k' n hx hy
    obtain rfl:=qB h
    exact op_mm ho rfl (arr_two ha) (arr_two hat) hx hy (.inl ⟨rfl,rfl⟩)
   ·cases h
  ·cases h
 ·rename_i args ats ho
  split at h
  ·rename_i x y t u ha hat
   split at h
   ·rename_i k m k' n hx hy
    obtain rfl:=qB h
    exact op_mm ho rfl (arr_two ha) (arr_two hat) hx hy (.inr ⟨rfl,rfl⟩)
   ·cases h
  ·cases h
 ·cases h
def RG (P:Program) (N:Nat) (ops:Array Oper) (rest:List Oper) (s:St) (K:St->List Eff->Prop):Prop:=∃Es s',Chain P N ops rest s Es s'/\K s' Es
section
variable {P : Program} {N : Nat} {ops : Array Oper} {rest : List Oper} {s : St} {K : St -> List Eff -> Prop} {o : Oper}
theorem RG.nil (h:K s []):RG P N ops [] s K:=⟨[],s,.nil s,h⟩
theorem RG.opB {E:Eff} (hg:gd ops s o=some true) (hb:Cbd P o s) (h:OpLoc P N o s E) (hr:RG P N ops rest (E.ap N o.dst s) fun s' Es=>K s' (E::Es)):RG P N ops (o::rest) s K:=by
 obtain ⟨Es,s',hc,hk⟩:=hr
 exact ⟨E::Es,s',.op hg hb h hc,hk⟩
theorem RG.op {E:Eff} (hv:isVal o=false) (hg:gd ops s o=some true) (h:OpLoc P N o s E) (hr:RG P N ops rest (E.ap N o.dst s) fun s' Es=>K s' (E::Es)):RG P N ops (o::rest) s K:=RG.opB hg (.inl hv) h hr
theorem RG.skip (hg:gd ops s o=some false) (hr:RG P N ops rest (Eff.skip.ap N o.dst s) fun s' Es=>K s' (Eff.skip::Es)):RG P N ops (o::rest) s K:=by
 obtain ⟨Es,s',hc,hk⟩:=hr
 exact ⟨_::Es,s',.skip hg hc,hk⟩
end
section
variable {β : Type}
def force1 (x:AV) (k:AV->β):β :=
 match x with
 | .b p=>k (.b p)
 | .i a n=>k (.i a n)
 | .u a=>k (.u a)
 | .y a=>k (.y a)
 | .s l=>k (.s l)
 | .raw v=>k (.raw v)
 | .sl e=>k (.sl e)
 | .ro c=>k (.ro c)
 | .agg c=>k (.agg c)
 | .tup c=>k (.tup c)
 | .fn f a c=>k (.fn f a c)
 | .own i e o=>k (.own i e o)
 | .el i e a b=>k (.el i e a b)
 | .row i e a b=>k (.row i e a b)
 | .ref i e a=>k (.ref i e a)
 | .any=>k .any
theorem force1_eq (x:AV) (k:AV->β):force1 x k=k x:=by cases x <;> rfl
def forceL:List AV->(List AV->β)->β
 | [],k=>k []
 | x::xs,k=>force1 x fun y=>forceL xs fun ys=>k (y::ys)
theorem forceL_eq:∀(l:List AV) (k:List AV->β),forceL l k=k l
 | [],_=>rfl
 | x::xs,k=>by rw [forceL,force1_eq,forceL_eq xs]
def force2 (x:AV) (k:AV->β):β :=
 match x with
 | .agg c=>forceL c fun c=>k (.agg c)
 | .ro c=>forceL c fun c=>k (.ro c)
 | x=>force1 x k
theorem force2_eq (x:AV) (k:AV->β):force2 x k=k x:=by cases x <;> first | rfl | exact forceL_eq _ _
def force2L:List AV->(List AV->β)->β
 | [],k=>k []
 | x::xs,k=>force2 x fun y=>force2L xs fun ys=>k (y::ys)
theorem force2L_eq:∀(l:List AV) (k:List AV->β),force2L l k=k l
 | [],_=>rfl
 | x::xs,k=>by rw [force2L,force2_eq,force2L_eq xs]
def force (x:AV) (k:AV->β):β :=
 match x with
 | .tup c=>force2L c fun c=>k (.tup c)
 | .fn f a c=>forceL a fun a=>forceL c fun c=>k (.fn f a c)
 | x=>force2 x k
theorem force_eq (x:AV) (k:AV->β):force x k=k x:=by
 cases x with
 | tup c=>exact force2L_eq c _
 | fn f a c=>simp only [force,forceL_eq]
 | agg c=>exact forceL_eq c _
 | ro c=>exact forceL_eq c _
 | _=>rfl
def forceU:List (Nat × SB)->(List (Nat × SB)->β)->β
 | [],k=>k []
 | (id,⟨e,some (.box t cs)⟩)::l,k=>forceL cs fun cs=>forceU l fun l=>k ((id,⟨e,some (.box t cs)⟩)::l)
 | (id,⟨e,some (.row t m els)⟩)::l,k=>forceU l fun l=>k ((id,⟨e,some (.row t m els)⟩)::l)
 | (id,⟨e,none⟩)::l,k=>forceU l fun l=>k ((id,⟨e,none⟩)::l)
 | (id,⟨e,some (.ghost a b q)⟩)::l,k=>forceU l fun l=>k ((id,⟨e,some (.ghost a b q)⟩)::l)
 | (id,⟨e,some (.obj o)⟩)::l,k=>forceU l fun l=>k ((id,⟨e,some (.obj o)⟩)::l)
 | (id,⟨e,some (.nest t o)⟩)::l,k=>forceU l fun l=>k ((id,⟨e,some (.nest t o)⟩)::l)
theorem forceU_eq:∀(l:List (Nat × SB)) (k:List (Nat × SB)->β),forceU l k=k l
 | [],_=>rfl
 | (id,⟨e,some (.box t cs)⟩)::l,k=>by rw [forceU,forceL_eq,forceU_eq l]
 | (id,⟨e,some (.row t m els)⟩)::l,k=>by rw [forceU,forceU_eq l]
 | (id,⟨e,none⟩)::l,k=>by rw [forceU,forceU_eq l]
 | (id,⟨e,some (.ghost a b q)⟩)::l,k=>by rw [forceU,forceU_eq l]
 | (id,⟨e,some (.obj o)⟩)::l,k=>by rw [forceU,forceU_eq l]
 | (id,⟨e,some (.nest t o)⟩)::l,k=>by rw [forceU,forceU_eq l]
def forceD (d:Option Nat) (k:Option Nat->β):β :=
 match d with
 | none=>k none
 | some d=>k (some d)
theorem forceD_eq (d:Option Nat) (k:Option Nat->β):forceD d k=k d:=by cases d <;> rfl
end
def runS (T:TT) (B N:Nat) (ops:Array Oper):Nat->List Oper->St->List Eff->List Oper × St × List Eff
 | 0,rest,s,acc=>(rest,s,acc)
 | _+1,[],s,acc=>([],s,acc)
 | k+1,o::rest,⟨ts,σ⟩,acc=>match o.guard with
  | none=>match stp T B o ⟨ts,σ⟩ with
   | some ⟨v,up,rd⟩=>force v fun v=>forceU up fun up=>forceD o.dst fun d=>runS T B N ops k rest ⟨putS N ts d v,ups σ up⟩ (⟨v,up,rd⟩::acc)
   | none=>(o::rest,⟨ts,σ⟩,acc)
  | some _=>(o::rest,⟨ts,σ⟩,acc)
theorem RG.runX {P:Program} {N:Nat} {T:TT} (hT:tabB P T=true) (B:Nat) {ops:Array Oper} (k:Nat):∀{rest:List Oper} {s:St} {K:St->List Eff->Prop} {acc:List Eff} {r:List Oper} {s':St} {Es:List Eff},runS T B N ops k rest s acc=(r,s',Es)->RG P N ops r s' (fun s'' Fs=>K s'' (Es.reverseAux Fs))->RG P N ops rest s (fun s'' Fs=>K s'' (acc.reverseAux Fs)):=by
 induction k with
 | zero =>
  intro rest s K acc r s' Es h hr
  simp only [runS,qZ] at h
  obtain ⟨rfl,rfl,rfl⟩:=h
  exact hr
 | succ k ih =>
  intro rest s K acc r s' Es h hr
  cases rest with
  | nil =>
   simp only [runS,qZ] at h
   obtain ⟨rfl,rfl,rfl⟩:=h
   exact hr
  | cons o rest =>
   obtain ⟨ts,σ⟩:=s
   have stay:(o::rest,(⟨ts,σ⟩:St),acc)=(r,s',Es)->RG P N ops (o::rest) ⟨ts,σ⟩ (fun s'' Fs=>K s'' (acc.reverseAux Fs)):=fun h=>by
    simp only [qZ] at h
    obtain ⟨rfl,rfl,rfl⟩:=h
    exact hr
   simp only [runS] at h
   split at h
   ·rename_i hg
    split at h
    ·rename_i v up rd hE
     rw [force_eq,forceU_eq,forceD_eq] at h
     exact RG.op (stp_plain hE).2 (by unfold gd gd0;rw [hg,(stp_plain hE).1];rfl) (stp_ok hT hE) (ih (K:=K) (acc:=⟨v,up,rd⟩::acc) h hr)
    ·exact stay h
   ·exact stay h
theorem RG.run {P:Program} {N:Nat} {T:TT} (hT:tabB P T=true) (B:Nat) {ops:Array Oper} (k:Nat) {rest:List Oper} {s:St} {K:St->List Eff->Prop} {r:List Oper} {s':St} {Es:List Eff} (h:runS T B N ops k rest s []=(r,s',Es)) (hr:RG P N ops r s' (fun s'' Fs=>K s'' (Es.reverseAux Fs))):RG P N ops rest s K :=
 RG.runX hT B k (K:=K) (acc:=[]) h hr
def runF (T:TT) (B N:Nat) (ops:Array Oper):Nat->List Oper->St->List Eff->List Oper × St × List Eff
 | 0,rest,s,acc=>(rest,s,acc)
 | _+1,[],s,acc=>([],s,acc)
 | k+1,o::rest,⟨ts,σ⟩,acc=>match gd ops ⟨ts,σ⟩ o with
  | some true=>match stp T B o ⟨ts,σ⟩ with
   | some ⟨v,up,rd⟩=>force v fun v=>forceU up fun up=>forceD o.dst fun d=>runF T B N ops k rest ⟨putS N ts d v,ups σ up⟩ (⟨v,up,rd⟩::acc)
   | none=>(o::rest,⟨ts,σ⟩,acc)
  | some false=>forceD o.dst fun d=>runF T B N ops k rest ⟨putS N ts d (.tup []),σ⟩ (Eff.skip::acc)
  | none=>(o::rest,⟨ts,σ⟩,acc)
theorem RG.runFX {P:Program} {N:Nat} {T:TT} (hT:tabB P T=true) (B:Nat) {ops:Array Oper} (k:Nat):∀{rest:List Oper} {s:St} {K:St->List Eff->Prop} {acc:List Eff} {r:List Oper} {s':St} {Es:List Eff},runF T B N ops k rest s acc=(r,s',Es)->RG P N ops r s' (fun s'' Fs=>K s'' (Es.reverseAux Fs))->RG P N ops rest s (fun s'' Fs=>K s'' (acc.reverseAux Fs)):=by
 induction k with
 | zero =>
  intro rest s K acc r s' Es h hr
  simp only [runF,qZ] at h
  obtain ⟨rfl,rfl,rfl⟩:=h
  exact hr
 | succ k ih =>
  intro rest s K acc r s' Es h hr
  cases rest with
  | nil =>
   simp only [runF,qZ] at h
   obtain ⟨rfl,rfl,rfl⟩:=h
   exact hr
  | cons o rest =>
   obtain ⟨ts,σ⟩:=s
   have stay:(o::rest,(⟨ts,σ⟩:St),acc)=(r,s',Es)->RG P N ops (o::rest) ⟨ts,σ⟩ (fun s'' Fs=>K s'' (acc.reverseAux Fs)):=fun h=>by
    simp only [qZ] at h
    obtain ⟨rfl,rfl,rfl⟩:=h
    exact hr
   simp only [runF] at h
   split at h
   ·rename_i hg
    split at h
    ·rename_i v up rd hE
     rw [force_eq,forceU_eq,forceD_eq] at h
     exact RG.op (stp_plain hE).2 hg (stp_ok hT hE) (ih (K:=K) (acc:=⟨v,up,rd⟩::acc) h hr)
    ·exact stay h
   ·rename_i hg
    rw [forceD_eq] at h
    exact RG.skip hg (ih (K:=K) (acc:=Eff.skip::acc) h hr)
   ·exact stay h
theorem RG.runG {P:Program} {N:Nat} {T:TT} (hT:tabB P T=true) (B:Nat) {ops:Array Oper} (k:Nat) {rest:List Oper} {s:St} {K:St->List Eff->Prop} {r:List Oper} {s':St} {Es:List Eff} (h:runF T B N ops k rest s []=(r,s',Es)) (hr:RG P N ops r s' (fun s'' Fs=>K s'' (Es.reverseAux Fs))):RG P N ops rest s K :=
 RG.runFX hT B k (K:=K) (acc:=[]) h hr
def lkR:List (Nat × AV)->Option Nat->Option AV
 | [],_=>none
 | _,none=>none
 | p::l,some d=>cond (Nat.beq p.1 d) (some p.2) (lkR l (some d))
def Obs:List (AV × AV)->Prop
 | []=>True
 | p::l=>p.1=p.2/\Obs l
def runR (T:TT) (B N:Nat) (R:List (Nat × AV)) (ops:Array Oper):Nat->List Oper->St->List Eff->List (AV × AV)->List Oper × St × List Eff × List (AV × AV)
 | 0,rest,s,acc,ob=>(rest,s,acc,ob)
 | _+1,[],s,acc,ob=>([],s,acc,ob)
 | k+1,o::rest,⟨ts,σ⟩,acc,ob=>match gd ops ⟨ts,σ⟩ o with
  | some true=>match stp T B o ⟨ts,σ⟩ with
   | some ⟨v,up,rd⟩=>match lkR R o.dst with
    | none=>force v fun v=>forceU up fun up=>forceD o.dst fun d=>runR T B N R ops k rest ⟨putS N ts d v,ups σ up⟩ (⟨v,up,rd⟩::acc) ob
    | some y=>forceU up fun up=>forceD o.dst fun d=>runR T B N R ops k rest ⟨putS N ts d y,ups σ up⟩ (⟨y,up,rd⟩::acc) ((v,y)::ob)
   | none=>(o::rest,⟨ts,σ⟩,acc,ob)
  | some false=>forceD o.dst fun d=>runR T B N R ops k rest ⟨putS N ts d (.tup []),σ⟩ (Eff.skip::acc) ob
  | none=>(o::rest,⟨ts,σ⟩,acc,ob)
theorem runR_ob {T:TT} {B N:Nat} {R:List (Nat × AV)} {ops:Array Oper} (k:Nat):∀{rest:List Oper} {s:St} {acc:List Eff} {ob:List (AV × AV)} {r:List Oper} {s':St} {Es:List Eff} {ob':List (AV × AV)},runR T B N R ops k rest s acc ob=(r,s',Es,ob')->Obs ob'->Obs ob:=by
 induction k with
 | zero =>
  intro rest s acc ob r s' Es ob' h ho
  simp only [runR,qZ] at h
  obtain ⟨_,_,_,rfl⟩:=h
  exact ho
 | succ k ih =>
  intro rest s acc ob r s' Es ob' h ho
  cases rest with
  | nil =>
   simp only [runR,qZ] at h
   obtain ⟨_,_,_,rfl⟩:=h
   exact ho
  | cons o rest =>
   obtain ⟨ts,σ⟩:=s
   have stay:(o::rest,(⟨ts,σ⟩:St),acc,ob)=(r,s',Es,ob')->Obs ob:=fun h=>by
    simp only [qZ] at h
    obtain ⟨_,_,_,rfl⟩:=h
    exact ho
   simp only [runR] at h
   split at h
   ·split at h
    ·split at h
     ·rw [force_eq,forceU_eq,forceD_eq] at h
      exact ih h ho
     ·rw [forceU_eq,forceD_eq] at h
      exact (ih h ho).2
    ·exact stay h
   ·rw [forceD_eq] at h
    exact ih h ho
   ·exact stay h
theorem RG.runRX {P:Program} {N:Nat} {T:TT} (hT:tabB P T=true) (B:Nat) {R:List (Nat × AV)} {ops:Array Oper} (k:Nat):∀{rest:List Oper} {s:St} {K:St->List Eff->Prop} {acc:List Eff} {ob:List (AV × AV)} {r:List Oper} {s':St} {Es:List Eff} {ob':List (AV × AV)},runR T B N R ops k rest s acc ob=(r,s',Es,ob')->Obs ob'->RG P N ops r s' (fun s'' Fs=>K s'' (Es.reverseAux Fs))->RG P N ops rest s (fun s'' Fs=>K s'' (acc.reverseAux Fs)):=by
 induction k with
 | zero =>
  intro rest s K acc ob r s' Es ob' h ho hr
  simp only [runR,qZ] at h
  obtain ⟨rfl,rfl,rfl,rfl⟩:=h
  exact hr
 | succ k ih =>
  intro rest s K acc ob r s' Es ob' h ho hr
  cases rest with
  | nil =>
   simp only [runR,qZ] at h
   obtain ⟨rfl,rfl,rfl,rfl⟩:=h
   exact hr
  | cons o rest =>
   obtain ⟨ts,σ⟩:=s
   have stay:(o::rest,(⟨ts,σ⟩:St),acc,ob)=(r,s',Es,ob')->RG P N ops (o::rest) ⟨ts,σ⟩ (fun s'' Fs=>K s'' (acc.reverseAux Fs)):=fun h=>by
    simp only [qZ] at h
    obtain ⟨rfl,rfl,rfl,rfl⟩:=h
    exact hr
   simp only [runR] at h
   split at h
   ·rename_i hg
    split at h
    ·rename_i v up rd hE
     split at h
     ·rw [force_eq,forceU_eq,forceD_eq] at h
      exact RG.op (stp_plain hE).2 hg (stp_ok hT hE) (ih (K:=K) (acc:=⟨v,up,rd⟩::acc) h ho hr)
     ·rename_i y hy
      rw [forceU_eq,forceD_eq] at h
      have e:v=y:=(runR_ob k h ho).1
      subst e
      exact RG.op (stp_plain hE).2 hg (stp_ok hT hE) (ih (K:=K) (acc:=⟨v,up,rd⟩::acc) h ho hr)
    ·exact stay h
   ·rename_i hg
    rw [forceD_eq] at h
    exact RG.skip hg (ih (K:=K) (acc:=Eff.skip::acc) h ho hr)
   ·exact stay h
theorem RG.runO {P:Program} {N:Nat} {T:TT} (hT:tabB P T=true) (B:Nat) (R:List (Nat × AV)) {ops:Array Oper} (k:Nat) {rest:List Oper} {s:St} {K:St->List Eff->Prop} {r:List Oper} {s':St} {Es:List Eff} {ob:List (AV × AV)} (h:runR T B N R ops k rest s [] []=(r,s',Es,ob)) (ho:Obs ob) (hr:RG P N ops r s' (fun s'' Fs=>K s'' (Es.reverseAux Fs))):RG P N ops rest s K :=
 RG.runRX hT B k (K:=K) (acc:=[]) (ob:=[]) h ho hr
theorem AW.text {P:Program} {N id:Nat} {ops:Array Oper} {Q:Exit->St->Prop} {s:St} (h:RG P N ops ops.toList s fun s' _=>Q .normal s'):AW P N (.region id ops false) Q s:=by
 obtain ⟨Es,s',hc,hk⟩:=h
 exact AW.region_text hc hk
theorem AW.draws {P:Program} (hm:P.follows .mixedOrders=true) {N id:Nat} {ops:Array Oper} {Q:Exit->St->Prop} {s:St} (h:RG P N ops ops.toList s fun s' Es=>orderOk ops (ops.toList.zip Es)=true/\Q .normal s'):AW P N (.region id ops true) Q s:=by
 obtain ⟨Es,s',hc,ho,hk⟩:=h
 exact AW.region_any hm hc ho hk
section
variable {β : Type}
def forceN:Nat->(Nat->β)->β
 | 0,k=>k 0
 | n+1,k=>forceN n fun m=>k (m+1)
theorem forceN_eq:∀(n:Nat) (k:Nat->β),forceN n k=k n
 | 0,k=>rfl
 | n+1,k=>forceN_eq n _
def forceC (x:AV) (k:AV->β):β :=
 match x with
 | .own i e o=>forceN e fun e=>forceN o fun o=>k (.own i e o)
 | .el i e a b=>forceN e fun e=>k (.el i e a b)
 | .row i e a b=>forceN e fun e=>k (.row i e a b)
 | .ref i e a=>forceN e fun e=>k (.ref i e a)
 | x=>force1 x k
theorem forceC_eq (x:AV) (k:AV->β):forceC x k=k x:=by
 cases x <;> simp only [forceC,forceN_eq,force1_eq]
def forceCL:List AV->(List AV->β)->β
 | [],k=>k []
 | x::xs,k=>forceC x fun y=>forceCL xs fun ys=>k (y::ys)
theorem forceCL_eq:∀(l:List AV) (k:List AV->β),forceCL l k=k l
 | [],_=>rfl
 | x::xs,k=>by simp only [forceCL,forceC_eq,forceCL_eq xs]
def forceV (x:AV) (k:AV->β):β :=
 match x with
 | .agg c=>forceCL c fun c=>k (.agg c)
 | .tup c=>forceCL c fun c=>k (.tup c)
 | x=>forceC x k
theorem forceV_eq (x:AV) (k:AV->β):forceV x k=k x:=by
 cases x <;> simp only [forceV,forceC_eq,forceCL_eq]
def forceUN:List (Nat × SB)->(List (Nat × SB)->β)->β
 | [],k=>k []
 | (id,⟨e,some (.box t cs)⟩)::l,k=>forceN e fun e=>forceCL cs fun cs=>forceUN l fun l=>k ((id,⟨e,some (.box t cs)⟩)::l)
 | (id,⟨e,some (.row t m els)⟩)::l,k=>forceN e fun e=>forceUN l fun l=>k ((id,⟨e,some (.row t m els)⟩)::l)
 | (id,⟨e,none⟩)::l,k=>forceN e fun e=>forceUN l fun l=>k ((id,⟨e,none⟩)::l)
 | (id,⟨e,some (.ghost a b q)⟩)::l,k=>forceN e fun e=>forceUN l fun l=>k ((id,⟨e,some (.ghost a b q)⟩)::l)
 | (id,⟨e,some (.obj o)⟩)::l,k=>forceN e fun e=>forceUN l fun l=>k ((id,⟨e,some (.obj o)⟩)::l)
 | (id,⟨e,some (.nest t o)⟩)::l,k=>forceN e fun e=>forceUN l fun l=>k ((id,⟨e,some (.nest t o)⟩)::l)
theorem forceUN_eq:∀(l:List (Nat × SB)) (k:List (Nat × SB)->β),forceUN l k=k l
 | [],_=>rfl
 | (id,⟨e,some (.box t cs)⟩)::l,k=>by simp only [forceUN,forceN_eq,forceCL_eq,forceUN_eq l]
 | (id,⟨e,some (.row t m els)⟩)::l,k=>by simp only [forceUN,forceN_eq,forceUN_eq l]
 | (id,⟨e,none⟩)::l,k=>by simp only [forceUN,forceN_eq,forceUN_eq l]
 | (id,⟨e,some (.ghost a b q)⟩)::l,k=>by simp only [forceUN,forceN_eq,forceUN_eq l]
 | (id,⟨e,some (.obj o)⟩)::l,k=>by simp only [forceUN,forceN_eq,forceUN_eq l]
 | (id,⟨e,some (.nest t o)⟩)::l,k=>by simp only [forceUN,forceN_eq,forceUN_eq l]
end
def argsA (s:St) (c:Call):Option (FuncId × List AV) :=
 match c.callee with
 | .value fop=>match s.ev fop with
  | .fn f first caps=>some (f,first++(c.args.toList.map s.ev++caps))
  | _=>none
 | _=>none
section
variable {P : Program} {N : Nat} {ops : Array Oper} {rest : List Oper} {s : St} {K : St -> List Eff -> Prop} {o : Oper}
theorem RG.opx {E:Eff} {d:Option Nat} (hg:gd ops s o=some true) (h:OpLoc P N o s E) (hd:o.dst=d) (hr:RG P N ops rest ⟨putS N s.ts d E.val,ups s.σ E.up⟩ fun s' Es=>K s' (E::Es)) (hv:isVal o=false:=by rfl):RG P N ops (o::rest) s K:=by
  subst hd
  exact RG.op hv hg h hr
theorem RG.call {c:Call} {f:FuncId} {xs ys zs:List AV} {l:List Nat} {r:AV} (hg:gd ops s o=some true) (ho:o.op = .call c) (ha:argsA s c=some (f,xs)) (hz:fzL s.σ 6 xs=some (ys,l)) (hy:ys=zs) (h:PDoes P f zs r) (hflat:r.flat=true)
  {d:Option Nat} (hd:o.dst=d) (hr:RG P N ops rest ⟨putS N s.ts d r,s.σ⟩ fun s' Es=>K s' (⟨r,[],l⟩::Es)):RG P N ops (o::rest) s K:=by
 subst hy hd
 unfold argsA at ha
 split at ha
 ·rename_i fop hc
  split at ha
  ·rename_i f' first caps hf
   simp only [qU,qZ] at ha
   obtain ⟨rfl,rfl⟩:=ha
   exact RG.opB hg (h.bd ho hc hf) (oploc_call ho hc hf (fzL_ok hz) h hflat) hr
  ·cases ha
 ·cases ha
theorem RG.callM {c:Call} {f:FuncId} {xs ys zs:List AV} {l:List Nat} {r:AV} (hg:gd ops s o=some true) (ho:o.op = .call c) (ha:argsA s c=some (f,xs)) (hz:fzL s.σ 6 xs=some (ys,l)) (hy:ys=zs) (h:PDoes P f zs r)
  {d:Option Nat} (hd:o.dst=d) (hr:RG P N ops rest ⟨putS N s.ts d r,ups s.σ (killS s.σ l)⟩ fun s' Es=>K s' (⟨r,killS s.σ l,[]⟩::Es)):RG P N ops (o::rest) s K:=by
 subst hy hd
 unfold argsA at ha
 split at ha
 ·rename_i fop hc
  split at ha
  ·rename_i f' first caps hf
   simp only [qU,qZ] at ha
   obtain ⟨rfl,rfl⟩:=ha
   exact RG.opB hg (h.bd ho hc hf) (oploc_callM ho hc hf (fzL_ok hz) h) hr
  ·cases ha
 ·cases ha
theorem RG.opS {ts:Nat->AV} {σ:Sto} {v:AV} {up:List (Nat × SB)} {rd:List Nat} {d:Option Nat} (hg:gd ops ⟨ts,σ⟩ o=some true) (h:OpLoc P N o ⟨ts,σ⟩ ⟨v,up,rd⟩) (hd:o.dst=d) (hr:RG P N ops rest ⟨putS N ts d v,ups σ up⟩ fun s' Es=>K s' (⟨v,up,rd⟩::Es)) (hv:isVal o=false:=by rfl):RG P N ops (o::rest) ⟨ts,σ⟩ K:=RG.opx hg h hd hr hv
theorem RG.opE {ts:Nat->AV} {σ:Sto} {v:AV} {up:List (Nat × SB)} {rd:List Nat} {d:Option Nat} (hg:gd ops ⟨ts,σ⟩ o=some true) (hb:Cbd P o ⟨ts,σ⟩) (h:OpLoc P N o ⟨ts,σ⟩ ⟨v,up,rd⟩) (hd:o.dst=d) (hr:RG P N ops rest ⟨putS N ts d v,ups σ up⟩ fun s' Es=>K s' (⟨v,up,rd⟩::Es)):RG P N ops (o::rest) ⟨ts,σ⟩ K:=by
 subst hd
 exact RG.opB hg hb h hr
theorem RG.callS {ts:Nat->AV} {σ:Sto} {c:Call} {f:FuncId} {xs ys zs:List AV} {l:List Nat} {r:AV} (hg:gd ops ⟨ts,σ⟩ o=some true) (ho:o.op = .call c) (ha:argsA ⟨ts,σ⟩ c=some (f,xs)) (hz:fzL σ 6 xs=some (ys,l)) (hy:ys=zs) (h:PDoes P f zs r) (hflat:r.flat=true) {d:Option Nat} (hd:o.dst=d)
  (hr:RG P N ops rest ⟨putS N ts d r,σ⟩ fun s' Es=>K s' (⟨r,[],l⟩::Es)):RG P N ops (o::rest) ⟨ts,σ⟩ K:=RG.call hg ho ha hz hy h hflat hd hr
theorem RG.callMS {ts:Nat->AV} {σ:Sto} {c:Call} {f:FuncId} {xs ys zs:List AV} {l:List Nat} {r:AV} {up:List (Nat × SB)} (hg:gd ops ⟨ts,σ⟩ o=some true) (ho:o.op = .call c) (ha:argsA ⟨ts,σ⟩ c=some (f,xs)) (hz:fzL σ 6 xs=some (ys,l)) (hy:ys=zs) (hu:forceUN (killS σ l) some=some up) (h:PDoes P f zs r) {d:Option Nat} (hd:o.dst=d)
  (hr:RG P N ops rest ⟨putS N ts d r,ups σ up⟩ fun s' Es=>K s' (⟨r,up,[]⟩::Es)):RG P N ops (o::rest) ⟨ts,σ⟩ K:=by
 rw [forceUN_eq] at hu
 obtain rfl:=qB hu
 exact RG.callM hg ho ha hz hy h hd hr
end
theorem AW.condT {P:Program} {N:Nat} {x:Operand} {y z:Code} {Q:Exit->St->Prop} {s:St} (hc:s.ev x = .b true) (h:AW P N y Q s):AW P N (.cond x y z) Q s:=AW.cond hc (fun _=>h) (fun e=>by cases e)
theorem AW.condF {P:Program} {N:Nat} {x:Operand} {y z:Code} {Q:Exit->St->Prop} {s:St} (hc:s.ev x = .b false) (h:AW P N z Q s):AW P N (.cond x y z) Q s:=AW.cond hc (fun e=>by cases e) (fun _=>h)
theorem PDoes.of_bodyN {P : Program} {f : FuncId} {fn : Func} {c : Code} {args : List AV} {r : AV} {N : Nat} (hf : P.funcs[f]? = some fn) (hb : fn.body = some c) (hn : (fn.name == "runtime.NumGoroutine") = false) (hN : fn.ntmps = N) (hlen : Nat.ble args.length N = true)
  (h:AW P N c (retQ P fn r) (st0 args)):PDoes P f args r:=by
 subst hN
 exact PDoes.of_body hf hb hn (qV hlen) h
theorem retQB {P:Program} {fn:Func} {t:Tmp} {s:St} {p:Bool} (hr:fn.results = #[.tmp t]) (hs:s.ts t = .b p) (hp:p=true):retQ P fn (.b true) .ret s :=
 ⟨.inr rfl,_,_,res_tmp hr s,by rw [hs,hp];exact .b true⟩
theorem nil_sl (W:World) (F:Nat->Prop):PRel W F (.sl []) (.slice none 0 0):=by
 refine .sl [] none 0 0 0 0 (fun _ _=>.nilIface) (by simp) (by decide) (by simp) ?_ ?_ ?_ ?_ <;> intros <;> simp_all
inductive Rn (σ σ':Sto):AV->AV->Prop where
 | any (x:AV):Rn σ σ' x .any
 | pu {x:AV} (h:x.pu1=true):Rn σ σ' x x
 | nil:Rn σ σ' (.raw (.slice none 0 0)) (.sl [])
 | own {id ep ep' off:Nat} {bd bd':Body} (h:σ id=⟨ep,some bd⟩) (h':σ' id=⟨ep',some bd'⟩):Rn σ σ' (.own id ep off) (.own id ep' off)
 | el {id ep ep' k j t m:Nat} {els:List (List AV)} (h:σ id=⟨ep,some (.row t m els)⟩) (h':σ' id=⟨ep',some (.row t m els)⟩):Rn σ σ' (.el id ep k j) (.el id ep' k j)
 | row {id ep ep' off n t m:Nat} {els:List (List AV)} (h:σ id=⟨ep,some (.row t m els)⟩) (h':σ' id=⟨ep',some (.row t m els)⟩):Rn σ σ' (.row id ep off n) (.row id ep' off n)
 | rowT {id ep ep' off n t m:Nat} {els els':List (List AV)} (h:σ id=⟨ep,some (.row t m els)⟩) (h':σ' id=⟨ep',some (.row t m els')⟩) (hn:off+n<=els'.length):Rn σ σ' (.row id ep off n) (.row id ep' off n)
 | rowN {id ep ep' off n t t':Nat} {els els':List AV} (h:σ id=⟨ep,some (.nest t els)⟩) (h':σ' id=⟨ep',some (.nest t' els')⟩) (hl:els'.length=els.length):Rn σ σ' (.row id ep off n) (.row id ep' off n)
 | ref {id ep ep':Nat} {k:RK} {bd bd':Body} (h:σ id=⟨ep,some bd⟩) (h':σ' id=⟨ep',some bd'⟩):Rn σ σ' (.ref id ep k) (.ref id ep' k)
 | agg {cs cs':List AV} (hl:cs'.length=cs.length) (h1:∀(j:Nat) (x:AV),cs'[j]?=some x->x.one=true) (h:∀(j:Nat) (x x':AV),cs[j]?=some x->cs'[j]?=some x'->Rn σ σ' x x'):Rn σ σ' (.agg cs) (.agg cs')
 | fn {f:FuncId} {a a' c c':List AV} (hl:a'.length=a.length) (hl':c'.length=c.length) (h:∀(j:Nat) (x x':AV),a[j]?=some x->a'[j]?=some x'->Rn σ σ' x x') (h':∀(j:Nat) (x x':AV),c[j]?=some x->c'[j]?=some x'->Rn σ σ' x x'):Rn σ σ' (.fn f a c) (.fn f a' c')
theorem Rn.is {σ σ':Sto} {x y:AV} (e:x=y) (h:y.pu1=true):Rn σ σ' x y:=by subst e;exact .pu h
theorem Rn.ownIs {σ σ':Sto} {x:AV} {id ep ep' off:Nat} {bd bd':Body} (e:x = .own id ep off) (h:σ id=⟨ep,some bd⟩) (h':σ' id=⟨ep',some bd'⟩):Rn σ σ' x (.own id ep' off):=e ▸ .own h h'
theorem Rn.refIs {σ σ':Sto} {x:AV} {id ep ep':Nat} {k:RK} {bd bd':Body} (e:x = .ref id ep k) (h:σ id=⟨ep,some bd⟩) (h':σ' id=⟨ep',some bd'⟩):Rn σ σ' x (.ref id ep' k):=e ▸ .ref h h'
theorem Rn.rowIs {σ σ':Sto} {x:AV} {id ep ep' off n t m:Nat} {els:List (List AV)} (e:x = .row id ep off n) (h:σ id=⟨ep,some (.row t m els)⟩) (h':σ' id=⟨ep',some (.row t m els)⟩):Rn σ σ' x (.row id ep' off n):=e ▸ .row h h'
theorem Rn.rowTIs {σ σ':Sto} {x:AV} {id ep ep' off n t m:Nat} {els els':List (List AV)} (e:x = .row id ep off n) (h:σ id=⟨ep,some (.row t m els)⟩) (h':σ' id=⟨ep',some (.row t m els')⟩) (hn:off+n<=els'.length):Rn σ σ' x (.row id ep' off n):=e ▸ .rowT h h' hn
theorem Rn.rel {W:World} {F:Nat->Prop} {μ:Mu} {σ σ':Sto} {x x':AV} (h:Rn σ σ' x x'):∀{v:Value},Rel W F μ σ x v->Rel W F μ σ' x' v:=by
 induction h with
 | any x=>exact fun _=>.any _
 | pu h=>exact fun hx=>.pure (pu1_rel h hx)
 | nil =>
  intro v hx
  rw [hx.raw']
  exact .pure (nil_sl _ _)
 | @own id ep ep' off bd bd' h h' =>
  intro v hx
  cases hx with
  | pure hx=>cases hx
  | own _ _ _ _ he h1 hv =>
   obtain ⟨b,c,hm,rfl⟩:=hv _ h
   exact .own _ _ _ _ (by rw [h'];exact qJ _) rfl fun _ _=>⟨b,c,hm,rfl⟩
 | @ref id ep ep' k bd bd' h h' =>
  intro v hx
  cases hx with
  | pure hx=>cases hx
  | ref _ _ _ _ he h1 hv =>
   obtain ⟨b,c,hm,rfl⟩:=hv _ h
   exact .ref _ _ _ _ (by rw [h'];exact qJ _) h1 fun _ _=>⟨b,c,hm,rfl⟩
 | @el id ep ep' k j t m els h h' =>
  intro v hx
  cases hx with
  | pure hx=>cases hx
  | el _ _ _ _ _ he h1 hv =>
   obtain ⟨b,c,hm,rfl⟩:=hv _ _ _ h rfl
   refine .el _ _ _ _ _ (by rw [h'];exact qJ _) rfl fun bd1 m1 l1 h2 hL=>⟨b,c,hm,?_⟩
   rw [h'] at h2
   simp only [SB.mk.injEq,qU,true_and] at h2
   subst h2
   simp only [Body.rowL,qU,qZ] at hL
   rw [hL.1]
 | @row id ep ep' off n t m els h h' =>
  intro v hx
  cases hx with
  | pure hx=>cases hx
  | row _ _ _ _ _ he h1 hv =>
   have hv:=hv _ _ _ h rfl
   refine .row _ _ _ _ _ (by rw [h'];exact qJ _) h1 fun bd1 m1 l1 h2 hL=>?_
   rw [h'] at h2
   simp only [SB.mk.injEq,qU,true_and] at h2
   subst h2
   simp only [Body.rowL,qU,qZ] at hL
   rw [<- hL.1,<- hL.2]
   exact hv
 | @rowT id ep ep' off n t m els els' h h' hn =>
  intro v hx
  cases hx with
  | pure hx=>cases hx
  | row _ _ _ _ _ he h1 hv =>
   have hv:=hv _ _ _ h rfl
   refine .row _ _ _ _ _ (by rw [h'];exact qJ _) h1 fun bd1 m1 l1 h2 hL=>?_
   rw [h'] at h2
   simp only [SB.mk.injEq,qU,true_and] at h2
   subst h2
   simp only [Body.rowL,qU,qZ] at hL
   rw [<- hL.1,<- hL.2]
   exact ⟨hn,hv.2⟩
 | @rowN id ep ep' off n t t' els els' h h' hl =>
  intro v hx
  cases hx with
  | pure hx=>cases hx
  | row _ _ _ _ _ he h1 hv =>
   have hv:=hv _ _ _ h rfl
   refine .row _ _ _ _ _ (by rw [h'];exact qJ _) h1 fun bd1 m1 l1 h2 hL=>?_
   rw [h'] at h2
   simp only [SB.mk.injEq,qU,true_and] at h2
   subst h2
   simp only [Body.rowL,qU,qZ] at hL
   rw [<- hL.1,<- hL.2,hl]
   exact hv
 | @agg cs cs' hl h1 h ih =>
  intro v hx
  obtain ⟨vs,rfl,hlv,_,hr⟩:=hx.agg'
  refine .agg _ _ (by rw [hlv,hl]) h1 fun j x' v hj hv=>?_
  obtain ⟨x,hxj⟩:∃x,cs[j]?=some x:=⟨_,qA (by rw [<- hl];exact (qC.1 hj).1)⟩
  exact ih j x x' hxj hj (hr j x v hxj hv)
 | @fn f a a' c c' hl hl' h h' ih ih' =>
  intro v hx
  obtain ⟨fs,cs,rfl,hf,hc,hr,hr'⟩:=hx.fn'
  refine .fn _ _ _ _ _ (by rw [hf,hl]) (by rw [hc,hl']) (fun j x' v hj hv=>?_) (fun j x' v hj hv=>?_)
  ·obtain ⟨x,hxj⟩:∃x,a[j]?=some x:=⟨_,qA (by rw [<- hl];exact (qC.1 hj).1)⟩
   exact ih j x x' hxj hj (hr j x v hxj hv)
  ·obtain ⟨x,hxj⟩:∃x,c[j]?=some x:=⟨_,qA (by rw [<- hl'];exact (qC.1 hj).1)⟩
   exact ih' j x x' hxj hj (hr' j x v hxj hv)
inductive RnB (σ σ':Sto):Body->Body->Prop where
 | box {t:TypeId} {cs cs':List AV} (hl:cs'.length=cs.length) (h1:∀(j:Nat) (x:AV),cs'[j]?=some x->x.one=true) (h:∀(j:Nat) (x x':AV),cs[j]?=some x->cs'[j]?=some x'->Rn σ σ' x x'):RnB σ σ' (.box t cs) (.box t cs')
 | row (t:TypeId) (m:Nat) (els:List (List AV)):RnB σ σ' (.row t m els) (.row t m els)
 | rowT (t:TypeId) (m n:Nat) (els:List (List AV)):RnB σ σ' (.row t m els) (.row t m (els.take n))
 | obj (o:Obj):RnB σ σ' (.obj o) (.obj o)
 | nest {t:TypeId} {els els':List AV} (hl:els'.length=els.length) (h1:∀(j:Nat) (x:AV),els'[j]?=some x->x.one=true) (h:∀(j:Nat) (x x':AV),els[j]?=some x->els'[j]?=some x'->Rn σ σ' x x'):RnB σ σ' (.nest t els) (.nest t els')
 | ghost {id ep ep':Nat} {bd bd':Body} {q:Option (Nat × Nat)} (h:σ id=⟨ep,some bd⟩) (h':σ' id=⟨ep',some bd'⟩):RnB σ σ' (.ghost id ep q) (.ghost id ep' q)
theorem BodyRel.take {W:World} {F:Nat->Prop} {μ:Mu} {σ σ':Sto} {p:Option (Nat × Nat)} {t m:Nat} {els:List (List AV)} (h:BodyRel W F μ σ p (.row t m els)) (n:Nat):BodyRel W F μ σ' p (.row t m (els.take n)):=by
 have g:∀(k:Nat) (cs:List AV),(els.take n)[k]?=some cs->els[k]?=some cs:=fun k cs hk=>by
  rw [uB] at hk
  split at hk
  ·exact hk
  ·cases hk
 rcases h with ⟨h1,h2⟩ | ⟨b,cap,cur,h1,h2,h3,h4,h5,h6,h7⟩
 ·exact .inl ⟨h1,by rw [h2,List.take_nil]⟩
 ·exact .inr ⟨b,cap,cur,h1,h2,by rw [vO];omega,h4,h5,fun k cs hk=>h6 k cs (g k cs hk),fun k cs j x hk hj=>h7 k cs j x (g k cs hk) hj⟩
structure Wk (s s':St):Prop where
 ts:∀t,Rn s.σ s'.σ (s.ts t) (s'.ts t)
 σ:∀id bd',(s'.σ id).body=some bd'->∃bd,(s.σ id).body=some bd/\RnB s.σ s'.σ bd bd'
theorem Wk.own {s s':St} (h:Wk s s') {μ:Mu} {b:Nat} (ho:Own μ s'.σ b):Own μ s.σ b:=by
 obtain ⟨id,ep,bd,c,h1,h2⟩:=ho
 obtain ⟨bd0,h3,_⟩:=h.σ id bd (by rw [h1])
 refine ⟨id,(s.σ id).ep,bd0,c,?_,h2⟩
 rw [<- h3]
theorem Wk.stp {s s':St} (h:Wk s s') (W:World) (F:Nat->Prop) (μ:Mu):Stq W F μ s.σ W F μ s'.σ :=
 ⟨Kp.refl _ _,fun _ h=>h,fun _ h=>.inl h,fun _ hb=>.inl (h.own hb)⟩
theorem Wk.rs {s s':St} (h:Wk s s') {N:Nat} {W:World} {F:Nat->Prop} {μ:Mu} {a:Act} (hr:RS N W F μ s a):RS N W F μ s' a:=by
 refine ⟨fun t=>(h.ts t).rel (hr.ts t),hr.defers.go (h.stp W F μ),hr.n,⟨fun id ep bd hb=>?_,fun b hb=>hr.inv.apart b (h.own hb),fun id id' b c c' h1 h2=>?_,hr.inv.old,hr.inv.lay⟩⟩
 ·obtain ⟨bd0,h3,hR⟩:=h.σ id bd (by rw [hb])
  have hB:=hr.inv.body id (s.σ id).ep bd0 (by rw [<- h3])
  cases hR with
  | row t m els=>exact hB
  | rowT t m n els=>exact hB.take n
  | obj o=>exact hB
  | @nest t els els' hl h1 hrn =>
   rcases hB with ⟨hn,rfl⟩ | ⟨b,cap,cur,hp,hh,q1,q2,q3,q4⟩
   ·exact .inl ⟨hn,uA.1 hl⟩
   ·refine .inr ⟨b,cap,cur,hp,hh,by omega,q2,q3,fun k x' hk=>⟨h1 k x' hk,?_⟩⟩
    obtain ⟨x,hx⟩:∃x,els[k]?=some x:=⟨_,qA (by rw [<- hl];exact (qC.1 hk).1)⟩
    obtain ⟨_,v,hv,hr'⟩:=q4 k x hx
    exact ⟨v,hv,(hrn k x x' hx hk).rel hr'⟩
  | ghost h h'=>exact ⟨hB.1,by rw [h'];exact qJ _,fun bd _=>hB.2.2 _ h⟩
  | @box t cs cs' hl h1 hrn =>
   obtain ⟨b,c,vs,hm,hw,hlv,hv⟩:=hB
   refine ⟨b,c,vs,hm,hw,by rw [hlv,hl],fun j x' v hj hvj=>⟨h1 j x' hj,?_⟩⟩
   obtain ⟨x,hxj⟩:∃x,cs[j]?=some x:=⟨_,qA (by rw [<- hl];exact (qC.1 hj).1)⟩
   exact (hrn j x x' hxj hj).rel (hv j x v hxj hvj).2
 ·have g : ∀ id, (s'.σ id).body.isSome = true -> (s.σ id).body.isSome = true := fun id hb => by
   obtain ⟨bd',e⟩:=vV.1 hb
   obtain ⟨bd,e',_⟩:=h.σ id bd' e
   rw [e'];rfl
  exact hr.inv.inj id id' b c c' (g id h1) (g id' h2)
theorem AW.weak {P:Program} {N:Nat} {c:Code} {Q:Exit->St->Prop} {s s':St} (h:Wk s s') (h':AW P N c Q s'):AW P N c Q s:=by
 intro W F μ a hr
 refine Code.wpA_mono ?_ (h' W F μ a (h.rs hr))
 rintro e a' W' ⟨F',μ',s'',hq,hr',hs⟩
 exact ⟨F',μ',s'',hq,hr',((h.stp W F μ).d rfl).trans hs⟩
open Classical in
theorem AW.loopS {P:Program} {N:Nat} {Q:Exit->St->Prop} {s:St} {c:Code} {ι:Type} (st:ι->St) (J:ι->Prop) (m:ι->Nat) (i0:ι) (h0:J i0) (hw:Wk s (st i0))
  (round:∀i,J i->AW P N c (thenA (fun s'=>∃i',(J i'/\m i'<m i)/\Wk s' (st i')) Q) (st i)):AW P N (.loop c) Q s:=by
 intro W F μ a hr ro hn
 let R:Nat->Act->World->Prop:=fun n a' W'=>∃F' μ' i,m i=n/\J i/\RS N W' F' μ' (st i) a'/\Std W F μ s.σ a W' F' μ' (st i).σ a'
 refine wpIn_loop (fun a' W'=>∃n,R n a' W') (fun a' W'=>if h:∃n,R n a' W' then (least _ h).choose else 0) ⟨_,F,μ,i0,rfl,h0,hw.rs hr,(hw.stp W F μ).d rfl⟩ ?_
 intro a1 W1 h
 simp only [dif_pos h]
 obtain ⟨F1,μ1,i,hm,hI,hr1,hs1⟩:=(least _ h).choose_spec.1
 rw [<- hm]
 refine wpIn_mono (round i hI W1 F1 μ1 a1 hr1 ro hn) ?_
 rintro e a' W' ⟨F',μ',s',hq,hr',hs⟩
 cases e with
 | normal =>
  obtain ⟨i',⟨hI',hlt⟩,hw'⟩:=hq
  have hR:R (m i') a' W':=⟨F',μ',i',rfl,hI',hw'.rs hr',(hs1.trans hs).trans ((hw'.stp W' F' μ').d rfl)⟩
  refine ⟨⟨_,hR⟩,?_⟩
  simp only [dif_pos (show ∃n,R n a' W' from ⟨_,hR⟩)]
  exact Nat.lt_of_le_of_lt ((least (fun n=>R n a' W') ⟨_,hR⟩).choose_spec.2 _ hR) hlt
 | _=>exact ⟨F',μ',s',hq,hr',hs1.trans hs⟩
def lkT:List (Nat × AV)->Nat->AV
 | [],_=>.any
 | p::l,t=>cond (Nat.beq t p.1) p.2 (lkT l t)
def lkB:List (Nat × SB)->Nat->SB
 | [],_=>⟨0,none⟩
 | p::l,id=>cond (Nat.beq id p.1) p.2 (lkB l id)
abbrev stL (l:List (Nat × AV)) (b:List (Nat × SB)):St:=⟨lkT l,lkB b⟩
def WkT (s:St) (σ':Sto):List (Nat × AV)->Prop
 | []=>True
 | p::l=>Rn s.σ σ' (s.ts p.1) p.2/\WkT s σ' l
inductive WkB1 (s:St) (σ':Sto) (id:Nat):SB->Prop where
 | box {t:TypeId} {cs cs':List AV} {ep ep':Nat} (h:s.σ id=⟨ep,some (.box t cs)⟩) (hl:cs'.length=cs.length) (h1:cs'.all AV.one=true) (hc:∀(j:Nat) (x x':AV),cs[j]?=some x->cs'[j]?=some x'->Rn s.σ σ' x x'):WkB1 s σ' id ⟨ep',some (.box t cs')⟩
 | row {t:TypeId} {m ep ep':Nat} {els els':List (List AV)} (h:s.σ id=⟨ep,some (.row t m els)⟩) (he:els=els'):WkB1 s σ' id ⟨ep',some (.row t m els')⟩
 | rowT {t:TypeId} {m ep ep' n:Nat} {els els':List (List AV)} (h:s.σ id=⟨ep,some (.row t m els)⟩) (he:els.take n=els'):WkB1 s σ' id ⟨ep',some (.row t m els')⟩
 | obj {ep ep':Nat} {o o':Obj} (h:s.σ id=⟨ep,some (.obj o)⟩) (he:o=o'):WkB1 s σ' id ⟨ep',some (.obj o')⟩
 | nest {t:TypeId} {ep ep':Nat} {els els':List AV} (h:s.σ id=⟨ep,some (.nest t els)⟩) (hl:els'.length=els.length) (h1:∀(j:Nat) (x:AV),els'[j]?=some x->x.one=true) (hc:∀(j:Nat) (x x':AV),els[j]?=some x->els'[j]?=some x'->Rn s.σ σ' x x'):WkB1 s σ' id ⟨ep',some (.nest t els')⟩
 | none (ep:Nat):WkB1 s σ' id ⟨ep,none⟩
 | ghost {ep ep' i e e':Nat} {bd bd':Body} {q:Option (Nat × Nat)} (h:s.σ id=⟨ep,some (.ghost i e q)⟩) (hx:s.σ i=⟨e,some bd⟩) (hx':σ' i=⟨e',some bd'⟩):WkB1 s σ' id ⟨ep',some (.ghost i e' q)⟩
def WkB (s:St) (σ':Sto):List (Nat × SB)->Prop
 | []=>True
 | p::l=>WkB1 s σ' p.1 p.2/\WkB s σ' l
theorem wkT_ok {s:St} {σ':Sto}:∀{l:List (Nat × AV)},WkT s σ' l->∀t,Rn s.σ σ' (s.ts t) (lkT l t)
 | [],_,_=>.any _
 | p::l,h,t=>by
  show Rn s.σ σ' (s.ts t) (cond (Nat.beq t p.1) p.2 (lkT l t))
  cases hb:Nat.beq t p.1
  ·exact wkT_ok h.2 t
  ·rw [qY hb]
   exact h.1
theorem wkB_ok {s:St} {σ':Sto}:∀{l:List (Nat × SB)},WkB s σ' l->∀id bd',(lkB l id).body=some bd'->∃bd,(s.σ id).body=some bd/\RnB s.σ σ' bd bd'
 | [],_,id,bd',h=>by cases h
 | p::l,h,id,bd',hb=>by
  replace hb:(cond (Nat.beq id p.1) p.2 (lkB l id)).body=some bd':=hb
  cases hq:Nat.beq id p.1
  ·rw [hq] at hb
   exact wkB_ok h.2 id bd' hb
  ·rw [hq] at hb
   replace hb:p.2.body=some bd':=hb
   rw [qY hq]
   have h1:=h.1
   obtain ⟨pid,psb⟩:=p
   cases h1 with
   | box h hl h1 hc =>
    obtain rfl:=qB hb
    exact ⟨_,by rw [h],.box hl (fun j x hj=>qW.1 h1 x (qQ hj)) hc⟩
   | row h he =>
    obtain rfl:=qB hb
    subst he
    exact ⟨_,by rw [h],.row _ _ _⟩
   | rowT h he =>
    obtain rfl:=qB hb
    subst he
    exact ⟨_,by rw [h],.rowT _ _ _ _⟩
   | obj h he =>
    obtain rfl:=qB hb
    subst he
    exact ⟨_,by rw [h],.obj _⟩
   | nest h hl h1 hc =>
    obtain rfl:=qB hb
    exact ⟨_,by rw [h],.nest hl h1 hc⟩
   | none=>cases hb
   | ghost h hx hx' =>
    obtain rfl:=qB hb
    exact ⟨_,by rw [h],.ghost hx hx'⟩
theorem WkB1.same {s:St} {σ':Sto} {id ep ep':Nat} {t:TypeId} {cs:List AV} (h:s.σ id=⟨ep,some (.box t cs)⟩) (h1:cs.all AV.one=true) (hp:cs.all AV.pu1=true):WkB1 s σ' id ⟨ep',some (.box t cs)⟩ :=
 .box h rfl h1 fun j x x' hj hj'=>by
  obtain rfl:=qB (hj.symm.trans hj')
  exact .pu (qW.1 hp x (qQ hj))
theorem Wk.to {s:St} {l:List (Nat × AV)} {b:List (Nat × SB)} (ht:WkT s (lkB b) l) (hB:WkB s (lkB b) b):Wk s (stL l b):=⟨wkT_ok ht,wkB_ok hB⟩
theorem AW.loopL {P:Program} {N:Nat} {Q:Exit->St->Prop} {s:St} {c:Code} {ι:Type} (T:ι->List (Nat × AV)) (B:ι->List (Nat × SB)) (J:ι->Prop) (m:ι->Nat) (i0:ι) (h0:J i0) (ht:WkT s (lkB (B i0)) (T i0)) (hB:WkB s (lkB (B i0)) (B i0))
  (round:∀i,J i->AW P N c (thenA (fun s'=>∃i',(J i'/\m i'<m i)/\WkT s' (lkB (B i')) (T i')/\WkB s' (lkB (B i')) (B i')) Q) (stL (T i) (B i))):AW P N (.loop c) Q s:=by
 refine AW.loopS (fun i=>stL (T i) (B i)) J m i0 h0 (Wk.to ht hB) fun i hJ=>(round i hJ).mono fun ex s' hq=>?_
 cases ex with
 | normal =>
  obtain ⟨i',hi,h1,h2⟩:=hq
  exact ⟨i',hi,Wk.to h1 h2⟩
 | _=>exact hq
theorem AW.only {P:Program} {N:Nat} {Q:Exit->St->Prop} {s:St} {c:Code} (l:List (Nat × AV)) (b:List (Nat × SB)) (ht:WkT s (lkB b) l) (hB:WkB s (lkB b) b) (h:AW P N c Q (stL l b)):AW P N c Q s:=AW.weak (Wk.to ht hB) h
theorem AW.lens {P:Program} {N:Nat} {Q:Exit->St->Prop} {s:St} {c:Code} (t:Nat) {els:List (List AV)} (ht:s.ts t = .sl els) (h:els.length<=9223372036854775807->AW P N c Q s):AW P N c Q s:=by
 intro W F μ a hr
 have h1:=hr.ts t
 rw [ht] at h1
 generalize a.tmps.getD t undef=v at h1
 cases h1.sl' with
 | sl _ A c m b off cell hc hm =>
  have:maxLen=9223372036854775807:=by decide
  exact h (by omega) W F μ a hr
end Go.Proofs.YtdidjpohnopihaaGreat.Sm
end
end
section
section
namespace Go.Proofs.YtdidjpohnopihaaGreat.Sm
open Go.RowKit
inductive Rm (π:List (Nat × Nat)) (σ σ':Sto):AV->AV->Prop where
 | any (x:AV):Rm π σ σ' x .any
 | pu {x:AV} (h:x.pu1=true):Rm π σ σ' x x
 | nil:Rm π σ σ' (.raw (.slice none 0 0)) (.sl [])
 | ref {id id' ep ep':Nat} {k:RK} {bd bd':Body} (hm:(id,id')∈π) (h:σ id=⟨ep,some bd⟩) (h':σ' id'=⟨ep',some bd'⟩):Rm π σ σ' (.ref id ep k) (.ref id' ep' k)
 | fn {f:FuncId} {a a' c c':List AV} (hl:a'.length=a.length) (hl':c'.length=c.length) (h:∀(j:Nat) (x x':AV),a[j]?=some x->a'[j]?=some x'->Rm π σ σ' x x') (h':∀(j:Nat) (x x':AV),c[j]?=some x->c'[j]?=some x'->Rm π σ σ' x x'):Rm π σ σ' (.fn f a c) (.fn f a' c')
 | own {id id' ep ep' off:Nat} {bd bd':Body} (hm:(id,id')∈π) (h:σ id=⟨ep,some bd⟩) (h':σ' id'=⟨ep',some bd'⟩):Rm π σ σ' (.own id ep off) (.own id' ep' off)
 | row {id id' ep ep' off n t m:Nat} {els:List (List AV)} (hm:(id,id')∈π) (h:σ id=⟨ep,some (.row t m els)⟩) (h':σ' id'=⟨ep',some (.row t m els)⟩):Rm π σ σ' (.row id ep off n) (.row id' ep' off n)
 | agg {cs cs':List AV} (hl:cs'.length=cs.length) (h1:∀(j:Nat) (x:AV),cs'[j]?=some x->x.one=true) (h:∀(j:Nat) (x x':AV),cs[j]?=some x->cs'[j]?=some x'->Rm π σ σ' x x'):Rm π σ σ' (.agg cs) (.agg cs')
 | tup {cs cs':List AV} (hl:cs'.length=cs.length) (h:∀(j:Nat) (x x':AV),cs[j]?=some x->cs'[j]?=some x'->Rm π σ σ' x x'):Rm π σ σ' (.tup cs) (.tup cs')
theorem Rm.is {π:List (Nat × Nat)} {σ σ':Sto} {x y:AV} (e:x=y) (h:y.pu1=true):Rm π σ σ' x y:=by subst e;exact .pu h
theorem Rm.rel {W:World} {F:Nat->Prop} {π:List (Nat × Nat)} {μ μ':Mu} {σ σ':Sto} (hμ:∀p∈π,μ' p.2=μ p.1) {x x':AV} (h:Rm π σ σ' x x'):∀{v:Value},Rel W F μ σ x v->Rel W F μ' σ' x' v:=by
 induction h with
 | any x=>exact fun _=>.any _
 | pu h=>exact fun hx=>.pure (pu1_rel h hx)
 | nil =>
  intro v hx
  rw [hx.raw']
  exact .pure (nil_sl _ _)
 | @ref id id' ep ep' k bd bd' hm h h' =>
  intro v hx
  cases hx with
  | pure hx=>cases hx
  | ref _ _ _ _ he h1 hv =>
   obtain ⟨b,c,hb,rfl⟩:=hv _ h
   exact .ref _ _ _ _ (by rw [h'];exact qJ _) h1 fun _ _=>⟨b,c,(hμ _ hm).trans hb,rfl⟩
 | @fn f a a' c c' hl hl' h h' ih ih' =>
  intro v hx
  obtain ⟨fs,cs,rfl,hf,hc,hr,hr'⟩:=hx.fn'
  refine .fn _ _ _ _ _ (by rw [hf,hl]) (by rw [hc,hl']) (fun j x' v hj hv=>?_) (fun j x' v hj hv=>?_)
  ·obtain ⟨x,hxj⟩:∃x,a[j]?=some x:=⟨_,qA (by rw [<- hl];exact (qC.1 hj).1)⟩
   exact ih j x x' hxj hj (hr j x v hxj hv)
  ·obtain ⟨x,hxj⟩:∃x,c[j]?=some x:=⟨_,qA (by rw [<- hl'];exact (qC.1 hj).1)⟩
   exact ih' j x x' hxj hj (hr' j x v hxj hv)
 | @own id id' ep ep' off bd bd' hm h h' =>
  intro v hx
  cases hx with
  | pure hx=>cases hx
  | own _ _ _ _ he h1 hv =>
   obtain ⟨b,c,hb,rfl⟩:=hv _ h
   exact .own _ _ _ _ (by rw [h'];exact qJ _) rfl fun _ _=>⟨b,c,(hμ _ hm).trans hb,rfl⟩
 | @row id id' ep ep' off n t m els hm h h' =>
  intro v hx
  cases hx with
  | pure hx=>cases hx
  | row _ _ _ _ _ he h1 hv =>
   have hv:=hv _ _ _ h rfl
   refine .row _ _ _ _ _ (by rw [h'];exact qJ _) h1 fun bd1 m1 l1 h2 hL=>?_
   rw [h'] at h2
   simp only [SB.mk.injEq,qU,true_and] at h2
   subst h2
   simp only [Body.rowL,qU,qZ] at hL
   have e:=hμ _ hm
   simp only at e
   rw [<- hL.1,<- hL.2,e]
   exact hv
 | @agg cs cs' hl h1 h ih =>
  intro v hx
  obtain ⟨vs,rfl,hlv,_,hr⟩:=hx.agg'
  refine .agg _ _ (by rw [hlv,hl]) h1 fun j x' v hj hv=>?_
  obtain ⟨x,hxj⟩:∃x,cs[j]?=some x:=⟨_,qA (by rw [<- hl];exact (qC.1 hj).1)⟩
  exact ih j x x' hxj hj (hr j x v hxj hv)
 | @tup cs cs' hl h ih =>
  intro v hx
  obtain ⟨vs,rfl,hlv,hr⟩:=hx.tup'
  refine .tup _ _ (by rw [hlv,hl]) fun j x' v hj hv=>?_
  obtain ⟨x,hxj⟩:∃x,cs[j]?=some x:=⟨_,qA (by rw [<- hl];exact (qC.1 hj).1)⟩
  exact ih j x x' hxj hj (hr j x v hxj hv)
structure MDoes (P:Program) (f:FuncId) (args:List AV) (b0:List (Nat × SB)) (r:AV) (b1:List (Nat × SB)):Prop where
 fn : ∃ fn c, P.funcs[f]? = some fn /\ fn.body = some c /\ (fn.name == "runtime.NumGoroutine") = false
 calls:∀(W:World) (F:Nat->Prop) (μ:Mu) (vs:List Value),vs.length=args.length->(∀(j:Nat) (x:AV) (v:Value),args[j]?=some x->vs[j]?=some v->Rel W F μ (lkB b0) x v)->Inv W F μ (lkB b0) ->
  Calls P f vs.toArray W fun e W'=>∃v F' μ',e = .returned v/\Inv W' F' μ' (lkB b1)/\Stq W F μ (lkB b0) W' F' μ' (lkB b1)/\Rel W' F' μ' (lkB b1) r v
def retM (P:Program) (fn:Func) (r:AV) (b1:List (Nat × SB)) (e:Exit) (s:St):Prop:=(e = .normal\/e = .ret)/\∃x,ResOk P fn s x/\Rm (b1.map fun p=>(p.1,p.1)) s.σ (lkB b1) x r/\WkB s (lkB b1) b1
def stM (args:List AV) (b0:List (Nat × SB)):St:=⟨fun t=>args.getD t (.tup []),lkB b0⟩
theorem MDoes.of_body {P : Program} {f : FuncId} {fn : Func} {c : Code} {args : List AV} {b0 b1 : List (Nat × SB)} {r : AV} {N : Nat} (hf : P.funcs[f]? = some fn) (hb : fn.body = some c) (hn : (fn.name == "runtime.NumGoroutine") = false) (hN : fn.ntmps = N) (hlen : Nat.ble args.length N = true)
  (h:AW P N c (retM P fn r b1) (stM args b0)):MDoes P f args b0 r b1:=by
 subst hN
 have hlen:=qV hlen
 refine ⟨⟨fn,c,hf,hb,hn⟩,fun W F μ vs hl hv hi=>?_⟩
 have hr:RS fn.ntmps W F μ (stM args b0) { tmps:=vs.toArray++Array.replicate (fn.ntmps - vs.toArray.size) undef,defers:=[] }:=by
  refine ⟨fun t=>?_,.nil,by simp;omega,hi⟩
  show Rel W F _ _ (args.getD t (.tup [])) _
  rw [vQ,Array.getElem?_append,qK]
  by_cases ht:t<args.length
  ·have h1:args[t]?=some args[t]:=qA ht
   have h2:vs[t]?=some vs[t]:=qA (by omega)
   rw [if_pos (by simp;omega),uG,h1,h2]
   exact hv t _ _ h1 h2
  ·rw [if_neg (by simp;omega),vS (by omega)]
   have:(Array.replicate (fn.ntmps - vs.toArray.size) undef)[t - vs.toArray.size]?.getD undef=undef:=by
    rw [Array.getElem?_replicate]
    split <;> rfl
   rw [this]
   exact .pure (.tup [] [] rfl (by simp))
 refine calls_left hf hb (h W F μ _ hr) (fun _ _ h=>h.1) ?_
 rintro e W' F' μ' s' a' ⟨he,x,hres,hx,hB⟩ hr' hs
 obtain ⟨v,hrun,hxv⟩:=hres W' F' μ' a' hr'
 have hwk:Wk s' ⟨fun _=>.any,lkB b1⟩:=⟨fun _=>.any _,wkB_ok hB⟩
 have hrs:=hwk.rs hr'
 have hfin:Stq W F μ (lkB b0) W' F' μ' (lkB b1):=hs.trans (hwk.stp W' F' μ')
 have hrel:Rel W' F' μ' (lkB b1) r v:=hx.rel (fun p hp=>by
  obtain ⟨q,_,rfl⟩:=vF.1 hp
  rfl) hxv
 exact ⟨v,hrun,v,F',μ',rfl,hrs.inv,hfin,hrel⟩
theorem Rm.congr {π:List (Nat × Nat)} {σ σ2 σ':Sto} (hσ:∀p∈π,σ2 p.1=σ p.1) {x x':AV} (h:Rm π σ σ' x x'):Rm π σ2 σ' x x':=by
 induction h with
 | any x=>exact .any x
 | pu h=>exact .pu h
 | nil=>exact .nil
 | ref hm h h'=>exact .ref hm ((hσ _ hm).trans h) h'
 | fn hl hl' _ _ ih ih'=>exact .fn hl hl' ih ih'
 | own hm h h'=>exact .own hm ((hσ _ hm).trans h) h'
 | row hm h h'=>exact .row hm ((hσ _ hm).trans h) h'
 | agg hl h1 _ ih=>exact .agg hl h1 ih
 | tup hl _ ih=>exact .tup hl ih
inductive RmB (π:List (Nat × Nat)) (σ σ':Sto):Body->Body->Prop where
 | box {t:TypeId} {cs cs':List AV} (hl:cs'.length=cs.length) (h1:∀(j:Nat) (x:AV),cs'[j]?=some x->x.one=true) (h:∀(j:Nat) (x x':AV),cs[j]?=some x->cs'[j]?=some x'->Rm π σ σ' x x'):RmB π σ σ' (.box t cs) (.box t cs')
 | row (t:TypeId) (m:Nat) (els:List (List AV)):RmB π σ σ' (.row t m els) (.row t m els)
 | obj (o:Obj):RmB π σ σ' (.obj o) (.obj o)
theorem RmB.congr {π:List (Nat × Nat)} {σ σ2 σ':Sto} (hσ:∀p∈π,σ2 p.1=σ p.1) {x x':Body} (h:RmB π σ σ' x x'):RmB π σ2 σ' x x':=by
 cases h with
 | box hl h1 h=>exact .box hl h1 fun j x x' g g'=>(h j x x' g g').congr hσ
 | row t m els=>exact .row t m els
 | obj o=>exact .obj o
theorem RmB.rel {W:World} {F:Nat->Prop} {π:List (Nat × Nat)} {μ μ':Mu} {σ σ':Sto} (hμ:∀p∈π,μ' p.2=μ p.1) {bd bd':Body} (h:RmB π σ σ' bd bd') {p:Option (Nat × Nat)} (hb:BodyRel W F μ σ p bd):BodyRel W F μ' σ' p bd':=by
 cases h with
 | row t m els=>exact hb
 | obj o=>exact hb
 | @box t cs cs' hl h1 hrn =>
  obtain ⟨b,c,vs,hm,hw,hlv,hv⟩:=hb
  refine ⟨b,c,vs,hm,hw,by rw [hlv,hl],fun j x' v hj hvj=>⟨h1 j x' hj,?_⟩⟩
  obtain ⟨x,hxj⟩:∃x,cs[j]?=some x:=⟨_,qA (by rw [<- hl];exact (qC.1 hj).1)⟩
  exact (hrn j x x' hxj hj).rel hμ (hv j x v hxj hvj).2
def muOf (μ:Mu):List (Nat × Nat)->Mu
 | [],_=>none
 | p::π,k=>if k=p.2 then μ p.1 else muOf μ π k
theorem muOf_some {μ:Mu}:∀{π:List (Nat × Nat)} {k:Nat} {x:Nat × Nat},muOf μ π k=some x->∃p∈π,p.2=k/\μ p.1=some x
 | [],_,_,h=>by cases h
 | p::π,k,x,h=>by
  unfold muOf at h
  split at h
  ·rename_i e
   exact ⟨p,by simp,e.symm,h⟩
  ·obtain ⟨q,h1,h2,h3⟩:=muOf_some h
   exact ⟨q,by simp [h1],h2,h3⟩
theorem muOf_in {μ:Mu}:∀{π:List (Nat × Nat)},(π.map (·.2)).Nodup->∀p∈π,muOf μ π p.2=μ p.1
 | [],_,p,hp=>by cases hp
 | q::π,hn,p,hp=>by
  rw [vB,vR] at hn
  unfold muOf
  rcases vC.1 hp with rfl | hp
  ·rw [if_pos rfl]
  ·rw [if_neg (fun e=>hn.1 (by rw [<- e];exact qX (f:=(·.2)) hp))]
   exact muOf_in hn.2 p hp
theorem give_inv {W : World} {F : Nat -> Prop} {μ : Mu} {σ σ0 : Sto} {π : List (Nat × Nat)} (hi : Inv W F μ σ) (hn : (π.map (·.2)).Nodup) (hn1 : (π.map (·.1)).Nodup)
  (hB:∀k bd',(σ0 k).body=some bd'->(∃p∈π,p.2=k/\∃bd,(σ p.1).body=some bd/\RmB π σ σ0 bd bd')\/(∃i e q,bd' = .ghost i e q/\e<=(σ0 i).ep/\muOf μ π i=q/\muOf μ π k=none)):Inv W F (muOf μ π) σ0:=by
 have own:∀k b c,(σ0 k).body.isSome=true->muOf μ π k=some (b,c)->∃p∈π,p.2=k/\μ p.1=some (b,c)/\(σ p.1).body.isSome=true:=fun k b c hs hm=>by
  obtain ⟨bd',e⟩:=vV.1 hs
  rcases hB k bd' e with ⟨p,hp,rfl,bd,h1,_⟩ | ⟨_,_,_,_,_,_,h⟩
  ·exact ⟨p,hp,rfl,(muOf_in hn p hp).symm.trans hm,by rw [h1];rfl⟩
  ·rw [h] at hm;cases hm
 refine ⟨fun k ep bd' hk=>?_,fun b ⟨k,ep,bd,c,h1,h2⟩=>?_,fun k k' b c c' h1 h2 h3 h4=>?_,hi.old,hi.lay⟩
 ·rcases hB k bd' (by rw [hk]) with ⟨p,hp,rfl,bd,h1,h2⟩ | ⟨i,e,q,rfl,h1,h2,h3⟩
  ·rw [muOf_in hn p hp]
   exact h2.rel (fun q hq=>muOf_in hn q hq) (hi.body p.1 (σ p.1).ep bd (by rw [<- h1]))
  ·exact ⟨h3,h1,fun _ _=>h2⟩
 ·obtain ⟨p,hp,rfl,g1,g2⟩:=own k b c (by rw [h1];rfl) h2
  obtain ⟨bd0,e⟩:=vV.1 g2
  exact hi.apart b ⟨p.1,(σ p.1).ep,bd0,c,by rw [<- e],g1⟩
 ·obtain ⟨p,hp,rfl,g1,g2⟩:=own k b c h1 h3
  obtain ⟨q,hq,rfl,g3,g4⟩:=own k' b c' h2 h4
  have e:=hi.inj p.1 q.1 b c c' g2 g4 g1 g3
  have:∀(l:List (Nat × Nat)),(l.map (·.1)).Nodup->p∈l->q∈l->p=q:=by
   intro l
   induction l with
   | nil=>intro _ h;cases h
   | cons a l ih =>
    intro hl h5 h6
    rw [vB,vR] at hl
    rcases vC.1 h5 with g5 | g5 <;> rcases vC.1 h6 with g6 | g6
    ·rw [g5,g6]
    ·exact (hl.1 (by rw [<- g5,e];exact qX (f:=(·.1)) g6)).elim
    ·exact (hl.1 (by rw [<- g6,<- e];exact qX (f:=(·.1)) g5)).elim
    ·exact ih hl.2 g5 g6
  rw [this π hn1 hp hq]
open Classical in
noncomputable def muBk (μ μ1:Mu) (π:List (Nat × Nat)) (T:List Nat):Mu:=fun id=>if id∈T then muOf μ1 π id else μ id
theorem back_inv {W W' : World} {F F' : Nat -> Prop} {μ μ0 μ1 : Mu} {σ σ0 σ1 σ2 : Sto} {π : List (Nat × Nat)} {T : List Nat} (hi : Inv W F μ σ) (hi1 : Inv W' F' μ1 σ1) (hs : Stq W F μ0 σ0 W' F' μ1 σ1)
  (own0:∀b,Own μ0 σ0 b->∃id∈T,∃ep bd c,σ id=⟨ep,some bd⟩/\μ id=some (b,c)) (hout:∀id,id∉T->σ2 id=σ id) (hn:(π.map (·.2)).Nodup) (hn1:∀p∈π,∀q∈π,p.1=q.1->p=q) (hT:∀p∈π,p.2∈T)
  (hup:∀id∈T,∀bd2,(σ2 id).body=some bd2->∃p∈π,p.2=id/\∃bd,(σ1 p.1).body=some bd/\RmB π σ1 σ2 bd bd2) (hep:∀id∈T,(σ id).ep<=(σ2 id).ep)
  (hsame:∀id∈T,(σ2 id).ep=(σ id).ep->∀bd2,(σ2 id).body=some bd2->∃bd,(σ id).body=some bd/\bd2.sh=bd.sh/\muOf μ1 π id=μ id) :
  Stp W F μ σ W' F' (muBk μ μ1 π T) σ2/\Inv W' F' (muBk μ μ1 π T) σ2:=by
 have muT:∀id,id∈T->muBk μ μ1 π T id=muOf μ1 π id:=fun id h=>if_pos h
 have muN:∀id,id∉T->muBk μ μ1 π T id=μ id:=fun id h=>if_neg h
 have size:=hs.kp.size
 have own0':∀b,Own μ0 σ0 b->Own μ σ b:=fun b hb=>by
  obtain ⟨id,_,ep,bd,c,h1,h2⟩:=own0 b hb
  exact ⟨id,ep,bd,c,h1,h2⟩
 -- a touched block, by the callee's number
 have tch:∀id∈T,∀b c,(σ2 id).body.isSome=true->muOf μ1 π id=some (b,c)->∃p∈π,p.2=id/\(σ1 p.1).body.isSome=true/\μ1 p.1=some (b,c):=fun id hid b c h1 h2=>by
  obtain ⟨bd2,e⟩:=vV.1 h1
  obtain ⟨p,hp,rfl,bd,e1,_⟩:=hup id hid bd2 e
  exact ⟨p,hp,rfl,by rw [e1];rfl,(muOf_in hn p hp).symm.trans h2⟩
 have tchO:∀id∈T,∀b c,(σ2 id).body.isSome=true->muOf μ1 π id=some (b,c)->Own μ1 σ1 b:=fun id hid b c h1 h2=>by
  obtain ⟨p,hp,rfl,g1,g2⟩:=tch id hid b c h1 h2
  obtain ⟨bd,e⟩:=vV.1 g1
  exact ⟨p.1,(σ1 p.1).ep,bd,c,by rw [<- e],g2⟩
 -- an untouched block is none of those that were handed
 have apart0:∀id,id∉T->∀b c,(σ id).body.isSome=true->μ id=some (b,c)->¬Own μ0 σ0 b:=fun id hid b c h1 h2 ho=>by
  obtain ⟨id',hT',ep,bd,c',g1,g2⟩:=own0 b ho
  have:=hi.inj id id' b c c' h1 (by rw [g1];rfl) h2 g2
  exact hid (this ▸ hT')
 have stp:Stp W F μ σ W' F' (muBk μ μ1 π T) σ2:=by
  refine ⟨hs.kp.mono fun b _ hb=>own0' b hb,hs.fro,fun b hb=>?_,fun b ⟨id,ep,bd,c,h1,h2⟩=>?_,fun id=>?_,fun id he bd2 hb=>?_⟩
  ·rcases hs.new b hb with h | h | h
   ·exact .inl h
   ·exact .inr (.inl (own0' b h))
   ·exact .inr (.inr h)
  ·by_cases hid:id∈T
   ·rw [muT id hid] at h2
    rcases hs.own b (tchO id hid b c (by rw [h1];rfl) h2) with h | h
    ·exact .inl (own0' b h)
    ·exact .inr h
   ·rw [muN id hid] at h2
    rw [hout id hid] at h1
    exact .inl ⟨id,ep,bd,c,h1,h2⟩
  ·by_cases hid:id∈T
   ·exact hep id hid
   ·rw [hout id hid];exact qJ _
  ·by_cases hid:id∈T
   ·rw [muT id hid]
    exact hsame id hid he bd2 hb
   ·rw [hout id hid] at hb
    exact ⟨bd2,hb,rfl,muN id hid⟩
 refine ⟨stp,fun id ep bd hb=>?_,fun b ⟨id,ep,bd,c,h1,h2⟩=>?_,fun id id' b c c' h1 h2 h3 h4=>?_,hi1.old,hi1.lay⟩
 ·by_cases hid:id∈T
  ·obtain ⟨p,hp,rfl,bd1,e1,hR⟩:=hup id hid bd (by rw [hb])
   rw [muT _ hid,muOf_in hn p hp]
   exact hR.rel (fun q hq=>(muT _ (hT q hq)).trans (muOf_in hn q hq)) (hi1.body p.1 (σ1 p.1).ep bd1 (by rw [<- e1]))
  ·rw [hout id hid] at hb
   rw [muN id hid]
   refine (hi.body id ep bd hb).stp hi stp fun b c hm=>?_
   have ho:=hi.apart b ⟨id,ep,bd,c,hb,hm⟩
   exact hs.kp.block b ho.1 (apart0 id hid b c (by rw [hb];rfl) hm)
 ·by_cases hid:id∈T
  ·rw [muT id hid] at h2
   exact hi1.apart b (tchO id hid b c (by rw [h1];rfl) h2)
  ·rw [muN id hid] at h2
   rw [hout id hid] at h1
   have ho:=hi.apart b ⟨id,ep,bd,c,h1,h2⟩
   refine ⟨by omega,fun hF=>?_⟩
   rcases hs.new b hF with h | h | h
   ·exact ho.2 h
   ·exact apart0 id hid b c (by rw [h1];rfl) h2 h
   ·omega
 ·have mix : ∀ id id' c c', id ∈ T -> id' ∉ T -> (σ2 id).body.isSome = true -> (σ2 id').body.isSome = true -> muBk μ μ1 π T id = some (b, c) -> muBk μ μ1 π T id' = some (b, c') -> False := fun id id' c c' hid hid' h1 h2 h3 h4 => by
   rw [muT id hid] at h3
   rw [muN id' hid'] at h4
   rw [hout id' hid'] at h2
   obtain ⟨bd',e⟩:=vV.1 h2
   have ho:=hi.apart b ⟨id',(σ id').ep,bd',c',by rw [<- e],h4⟩
   rcases hs.own b (tchO id hid b c h1 h3) with h | h
   ·exact apart0 id' hid' b c' h2 h4 h
   ·omega
  by_cases hid:id∈T <;> by_cases hid':id'∈T
  ·rw [muT id hid] at h3
   rw [muT id' hid'] at h4
   obtain ⟨p,hp,rfl,g1,g2⟩:=tch id hid b c h1 h3
   obtain ⟨q,hq,rfl,g3,g4⟩:=tch id' hid' b c' h2 h4
   rw [hn1 p hp q hq (hi1.inj p.1 q.1 b c c' g1 g3 g2 g4)]
  ·exact (mix id id' c c' hid hid' h1 h2 h3 h4).elim
  ·exact (mix id' id c' c hid' hid h2 h1 h4 h3).elim
  ·rw [muN id hid] at h3
   rw [muN id' hid'] at h4
   rw [hout id hid] at h1
   rw [hout id' hid'] at h2
   exact hi.inj id id' b c c' h1 h2 h3 h4
theorem Rm.congr2 {π:List (Nat × Nat)} {σ σ' σ2:Sto} (hσ:∀p∈π,σ2 p.2=σ' p.2) {x x':AV} (h:Rm π σ σ' x x'):Rm π σ σ2 x x':=by
 induction h with
 | any x=>exact .any x
 | pu h=>exact .pu h
 | nil=>exact .nil
 | ref hm h h'=>exact .ref hm h ((hσ _ hm).trans h')
 | fn hl hl' _ _ ih ih'=>exact .fn hl hl' ih ih'
 | own hm h h'=>exact .own hm h ((hσ _ hm).trans h')
 | row hm h h'=>exact .row hm h ((hσ _ hm).trans h')
 | agg hl h1 _ ih=>exact .agg hl h1 ih
 | tup hl _ ih=>exact .tup hl ih
theorem RmB.congr2 {π:List (Nat × Nat)} {σ σ' σ2:Sto} (hσ:∀p∈π,σ2 p.2=σ' p.2) {x x':Body} (h:RmB π σ σ' x x'):RmB π σ σ2 x x':=by
 cases h with
 | box hl h1 h=>exact .box hl h1 fun j x x' g g'=>(h j x x' g g').congr2 hσ
 | row t m els=>exact .row t m els
 | obj o=>exact .obj o
theorem upsC_out:∀{l:List (Nat × SB)} {σ:Sto} {id:Nat},id∉l.map (·.1)->ups σ l id=σ id
 | [],_,_,_=>rfl
 | p::l,σ,id,h=>by
  rw [vB,vC,not_or] at h
  show ups (up1 σ p.1 p.2) l id=σ id
  rw [upsC_out h.2]
  show cond (Nat.beq id p.1) p.2 (σ id)=σ id
  cases hb:Nat.beq id p.1
  ·rfl
  ·exact (h.1 (qY hb)).elim
theorem upsC_in:∀{l:List (Nat × SB)} {σ σ':Sto} {id:Nat},id∈l.map (·.1)->ups σ l id=ups σ' l id
 | [],_,_,_,h=>by cases h
 | p::l,σ,σ',id,h=>by
  show ups (up1 σ p.1 p.2) l id=ups (up1 σ' p.1 p.2) l id
  by_cases hl:id∈l.map (·.1)
  ·exact upsC_in hl
  ·rw [upsC_out hl,upsC_out hl]
   rw [vB,vC] at h
   have e:=h.resolve_right hl
   show cond (Nat.beq id p.1) p.2 (σ id)=cond (Nat.beq id p.1) p.2 (σ' id)
   rw [e,Nat.beq_refl]
   rfl
def gl (q:Nat->Option (Nat × Nat)):List Nat->List (Nat × SB)->List (Nat × SB)
 | [],B=>B
 | k::ks,B=>(900+k,⟨0,some (.ghost k 0 (q k))⟩)::gl q ks B
theorem gl_lo {q:Nat->Option (Nat × Nat)} {B:List (Nat × SB)} {k:Nat} (hk:k<900):∀ks,lkB (gl q ks B) k=lkB B k
 | []=>rfl
 | i::ks=>by
  show cond (Nat.beq k (900+i)) _ (lkB (gl q ks B) k)=_
  rw [beq_f (by omega),cond_false]
  exact gl_lo hk ks
theorem gl_at {q:Nat->Option (Nat × Nat)} {B:List (Nat × SB)} {k:Nat}:∀{ks},k∈ks->lkB (gl q ks B) (900+k)=⟨0,some (.ghost k 0 (q k))⟩
 | i::ks,h=>by
  show cond (Nat.beq (900+k) (900+i)) _ (lkB (gl q ks B) (900+k))=_
  by_cases e:k=i
  ·rw [e,beq_t,cond_true]
  ·rw [beq_f (by omega),cond_false]
   exact gl_at ((vC.1 h).resolve_left e)
theorem gl_hi {q:Nat->Option (Nat × Nat)} {B:List (Nat × SB)} {k:Nat} {bd:Body}:∀{ks},(lkB (gl q ks B) k).body=some bd->(∃i,k=900+i/\bd = .ghost i 0 (q i))\/(lkB B k).body=some bd
 | [],h=>.inr h
 | i::ks,h=>by
  replace h:(cond (Nat.beq k (900+i)) (⟨0,some (.ghost i 0 (q i))⟩:SB) (lkB (gl q ks B) k)).body=some bd:=h
  cases hb:Nat.beq k (900+i)
  ·rw [hb,cond_false] at h
   exact gl_hi h
  ·rw [hb,cond_true] at h
   exact .inl ⟨i,qY hb,(qB h).symm⟩
theorem oploc_callO {P : Program} {N : Nat} {o : Oper} {c : Call} {fop : Operand} {s : St} {f : FuncId} {first caps zs : List AV} {r r' : AV} {π π' : List (Nat × Nat)} {ks : List Nat} {B0 B1 up : List (Nat × SB)} (ho : o.op = .call c) (hc : c.callee = .value fop) (hf : s.ev fop = .fn f first caps)
  (h:∀q,MDoes P f zs (gl q ks B0) r (gl q ks B1))
  (hlen:zs.length=(first++(c.args.toList.map s.ev++caps)).length)
  (hargs:∀(j:Nat) (x z:AV),(first++(c.args.toList.map s.ev++caps))[j]?=some x->zs[j]?=some z->Rm π s.σ (lkB B0) x z)
  (hn:(π.map (·.2)).Nodup) (hn1:(π.map (·.1)).Nodup) (h9:∀p∈π,p.2<900)
  (hB0:∀k bd',(lkB B0 k).body=some bd'->∃p∈π,p.2=k/\∃bd,(s.σ p.1).body=some bd/\RmB π s.σ (lkB B0) bd bd')
  (hcov:∀p∈π,p.1∈up.map (·.1))
  (hn':(π'.map (·.2)).Nodup) (hn1':∀p∈π',∀q∈π',p.1=q.1->p=q) (h9':∀p∈π',p.1<900) (hT:∀p∈π',p.2∈up.map (·.1))
  (hup:∀id∈up.map (·.1),∀bd2,(ups s.σ up id).body=some bd2->∃p∈π',p.2=id/\∃bd,(lkB B1 p.1).body=some bd/\RmB π' (lkB B1) (ups s.σ up) bd bd2)
  (hep:∀id∈up.map (·.1),(s.σ id).ep<=(ups s.σ up id).ep)
  (hpin:∀id∈up.map (·.1),(ups s.σ up id).ep=(s.σ id).ep->∀bd2,(ups s.σ up id).body=some bd2->∃k∈ks,(id,k)∈π/\(k,id)∈π'/\(∃bd,lkB B1 k=⟨0,some bd⟩)/\∃bd,(s.σ id).body=some bd/\bd2.sh=bd.sh)
  (hr':Rm π' (lkB B1) (ups s.σ up) r r'):OpLoc P N o s ⟨r',up,[]⟩:=by
 intro s' hev _ hid' W F μ a hr K Q hK
 have hσ:∀id∈up.map (·.1),s'.σ id=s.σ id:=fun id hin=>by
  obtain ⟨p,hp,rfl⟩:=vF.1 hin
  exact hid' p hp
 have hu:∀id∈up.map (·.1),ups s'.σ up id=ups s.σ up id:=fun id hin=>upsC_in hin
 have hopers:o.op.operands.toList=fop::c.args.toList:=by
  rw [ho]
  simp [Op.operands,Call.operands,hc]
 have hf':s'.ev fop = .fn f first caps:=(hev fop (by rw [hopers];simp)).trans hf
 have hargs':c.args.toList.map s'.ev=c.args.toList.map s.ev:=List.map_congr_left fun x hx=>hev x (by rw [hopers];simp [hx])
 have hfv:=hr.ev fop
 rw [hf'] at hfv
 obtain ⟨fs,cs,hfe,hfl,hcl,hfr,hcr⟩:=hfv.fn'
 obtain ⟨q,hq⟩:∃q,q=muOf μ π:=⟨_,rfl⟩
 have lo0:∀p∈π,lkB (gl q ks B0) p.2=lkB B0 p.2:=fun p hp=>gl_lo (h9 p hp) ks
 have lo1:∀p∈π',lkB (gl q ks B1) p.1=lkB B1 p.1:=fun p hp=>gl_lo (h9' p hp) ks
 obtain ⟨fn,bd,g1,g2,g3⟩:=(h q).fn
 unfold Oper.wp
 rw [exec_call ho hc hfe g1 g2 g3]
 show Calls P f _ W _
 have hσπ:∀p∈π,s'.σ p.1=s.σ p.1:=fun p hp=>hσ p.1 (hcov p hp)
 have hi0:Inv W F (muOf μ π) (lkB (gl q ks B0)):=give_inv hr.inv hn hn1 fun k bd' hb=>by
  rcases gl_hi hb with ⟨i,rfl,rfl⟩ | hb
  ·right
   refine ⟨i,0,q i,rfl,qP _,by rw [hq],?_⟩
   cases hm:muOf μ π (900+i) with
   | none=>rfl
   | some x =>
    obtain ⟨p,hp,e,_⟩:=muOf_some hm
    have:=h9 p hp
    omega
  ·obtain ⟨p,hp,e,bd,e1,e2⟩:=hB0 k bd' hb
   exact .inl ⟨p,hp,e,bd,by rw [hσπ p hp];exact e1,(e2.congr hσπ).congr2 lo0⟩
 have hvl:(fs++(c.args.toList.map a.eval++cs)).length=zs.length:=by rw [hlen];simp [hfl,hcl]
 refine ((h q).calls W F (muOf μ π) (fs++(c.args.toList.map a.eval++cs)) hvl (fun j z v hz hv=>?_) hi0).mono ?_
 ·obtain ⟨x,hx⟩:∃x,(first++(c.args.toList.map s.ev++caps))[j]?=some x:=⟨_,qA (by rw [<- hlen];exact (qC.1 hz).1)⟩
  refine (((hargs j x z hx hz).congr hσπ).congr2 lo0).rel (fun p hp=>muOf_in hn p hp) ?_
  rw [<- hargs'] at hx
  rw [vX] at hx hv
  rw [hfl] at hv
  split at hx
  ·rename_i hlt
   rw [if_pos hlt] at hv
   exact hfr j x v hx hv
  ·rename_i hlt
   rw [if_neg hlt] at hv
   rw [vX] at hx hv
   simp only [qH] at hx hv
   split at hx
   ·rename_i hlt2
    rw [if_pos hlt2] at hv
    rw [qE] at hx hv
    cases hq:c.args.toList[j - first.length]? with
    | none=>rw [hq] at hx;cases hx
    | some q =>
     rw [hq] at hx hv
     obtain rfl:s'.ev q=x:=by simpa using hx
     obtain rfl:a.eval q=v:=by simpa using hv
     exact hr.ev q
   ·rename_i hlt2
    rw [if_neg hlt2] at hv
    exact hcr _ x v hx hv
 ·rintro e W' ⟨v,F',μ1,rfl,hi1,hs1,hv⟩
  obtain ⟨hs, hi⟩ := back_inv (σ2 := ups s'.σ up) (T := up.map (·.1)) hr.inv hi1 hs1 (fun b ⟨k, ep, bd, c, e1, e2⟩ => by
    obtain ⟨p,hp,rfl,e3⟩:=muOf_some e2
    rw [lo0 p hp] at e1
    obtain ⟨p',hp',e4,bd',e5,_⟩:=hB0 p.2 bd (show (lkB B0 p.2).body=some bd by rw [e1])
    have e6:μ p'.1=some (b,c):=by have g:=muOf_in (μ:=μ) hn p' hp';rw [e4] at g;exact g.symm.trans e2
    exact ⟨p'.1,hcov p' hp',(s'.σ p'.1).ep,bd',c,by rw [hσπ p' hp',<- e5],e6⟩)
   (fun id hid=>upsC_out hid) hn' hn1' hT
   (fun id hid bd2 hb=>by
    rw [hu id hid] at hb
    obtain ⟨p,hp,e1,bd,e2,e3⟩:=hup id hid bd2 hb
    exact ⟨p,hp,e1,bd,by rw [lo1 p hp];exact e2,(e3.congr2 fun p hp=>hu _ (hT p hp)).congr lo1⟩)
   (fun id hid=>by rw [hu id hid,hσ id hid];exact hep id hid)
   (fun id hid he bd2 hb=>by
    rw [hu id hid] at hb he
    rw [hσ id hid] at he
    obtain ⟨k,hk,m1,m2,⟨bd1,e1⟩,bd,e2,e3⟩:=hpin id hid he bd2 hb
    refine ⟨bd,by rw [hσ _ hid];exact e2,e3,?_⟩
    have hg:=hi1.body (900+k) 0 (.ghost k 0 (q k)) (gl_at hk)
    have h1:μ1 k=q k:=hg.2.2 bd1 ((lo1 _ m2).trans e1)
    exact (muOf_in hn' (k,id) m2).trans (h1.trans (by rw [hq];exact muOf_in hn (id,k) m1)))
  refine hK W' F' _ _ (hr.put hs hi (dst:=o.dst) (x:=r') (v:=v) ?_) hs
  refine ((hr'.congr lo1).congr2 fun p hp=>hu _ (hT p hp)).rel (fun p hp=>?_) hv
  unfold muBk
  rw [if_pos (hT p hp)]
  exact muOf_in hn' p hp
end Go.Proofs.YtdidjpohnopihaaGreat.Sm
end
section
namespace Go.Proofs.YtdidjpohnopihaaGreat.Sm
open Go.RowKit
def lkP:List (Nat × Nat)->Nat->Option Nat
 | [],_=>none
 | p::π,id=>cond (Nat.beq id p.1) (some p.2) (lkP π id)
theorem lkP_ok:∀{π:List (Nat × Nat)} {id k:Nat},lkP π id=some k->(id,k)∈π
 | [],_,_,h=>by cases h
 | p::π,id,k,h=>by
  replace h:cond (Nat.beq id p.1) (some p.2) (lkP π id)=some k:=h
  cases hb:Nat.beq id p.1
  ·rw [hb,cond_false] at h
   exact vG _ (lkP_ok h)
  ·rw [hb,cond_true] at h
   rw [qY hb,<- qB h]
   exact vH
def optL {α:Type}:List (Option α)->Option (List α)
 | []=>some []
 | none::_=>none
 | some x::l=>match optL l with
  | some r=>some (x::r)
  | none=>none
theorem optL_ok {α β:Type} {f:β->Option α}:∀{l:List β} {r:List α},optL (l.map f)=some r->r.length=l.length/\∀(j:Nat) (x:β) (y:α),l[j]?=some x->r[j]?=some y->f x=some y
 | [],r,h=>by
  obtain rfl:=qB h
  exact ⟨rfl,fun j x y hx=>by simp at hx⟩
 | a::l,r,h=>by
  cases ha:f a with
  | none=>simp [optL,ha] at h
  | some b =>
   cases hl:optL (l.map f) with
   | none=>simp [optL,ha,hl] at h
   | some t =>
    simp only [vB,optL,ha,hl,qU] at h
    subst h
    obtain ⟨h1,h2⟩:=optL_ok hl
    refine ⟨by simp [h1],fun j x y hx hy=>?_⟩
    cases j with
    | zero =>
     obtain rfl:a=x:=by simpa using hx
     obtain rfl:b=y:=by simpa using hy
     exact ha
    | succ j=>exact h2 j x y (by simpa using hx) (by simpa using hy)
def rmA0 (π:List (Nat × Nat)) (σ:Sto) (e:Nat->Nat):AV->Option AV
 | .own id ep off=>match lkP π id,σ id with
  | some k,⟨ep0,some _⟩=>cond (Nat.beq ep0 ep) (some (.own k (e k) off)) none
  | _,_=>none
 | .ref id ep kd=>match lkP π id,σ id with
  | some k,⟨ep0,some _⟩=>cond (Nat.beq ep0 ep) (some (.ref k (e k) kd)) none
  | _,_=>none
 | .row id ep off n=>match lkP π id,σ id with
  | some k,⟨ep0,some (.row _ _ _)⟩=>cond (Nat.beq ep0 ep) (some (.row k (e k) off n)) none
  | _,_=>none
 | .any=>some .any
 | x=>cond x.pu1 (some x) none
def rmAg (π:List (Nat × Nat)) (σ:Sto) (e:Nat->Nat):AV->Option AV
 | .agg cs=>match optL (cs.map (rmA0 π σ e)) with
  | some r=>cond (r.all AV.one) (some (.agg r)) none
  | none=>none
 | x=>rmA0 π σ e x
def rmA1 (π:List (Nat × Nat)) (σ:Sto) (e:Nat->Nat):AV->Option AV
 | .fn f a c=>match optL (a.map (rmAg π σ e)),optL (c.map (rmAg π σ e)) with
  | some a',some c'=>some (.fn f a' c')
  | _,_=>none
 | x=>rmA0 π σ e x
def rmA2 (π:List (Nat × Nat)) (σ:Sto) (e:Nat->Nat):AV->Option AV
 | .agg cs=>match optL (cs.map (rmA1 π σ e)) with
  | some r=>cond (r.all AV.one) (some (.agg r)) none
  | none=>none
 | x=>rmA1 π σ e x
def rmA (π:List (Nat × Nat)) (σ:Sto) (e:Nat->Nat):AV->Option AV
 | .tup cs=>match optL (cs.map (rmA2 π σ e)) with
  | some r=>some (.tup r)
  | none=>none
 | x=>rmA2 π σ e x
def RmS (π:List (Nat × Nat)) (σ σ':Sto) (e:Nat->Nat):Prop :=
 ∀p∈π,∀bd,(σ p.1).body=some bd->∃bd',σ' p.2=⟨e p.2,some bd'⟩/\∀t m els,bd = .row t m els->bd' = .row t m els
theorem rmA0_ok {π:List (Nat × Nat)} {σ σ':Sto} {e:Nat->Nat} (hS:RmS π σ σ' e) {x x':AV} (h:rmA0 π σ e x=some x'):Rm π σ σ' x x':=by
 unfold rmA0 at h
 split at h
 ·split at h
  ·rename_i id ep off o sb k ep0 bd hk hs
   obtain ⟨h1,h2⟩:=cond_none h
   obtain rfl:=qY h1
   obtain rfl:=qB h2
   have hm:=lkP_ok hk
   obtain ⟨bd',h3,_⟩:=hS _ hm bd (by rw [hs])
   exact .own hm hs h3
  ·cases h
 ·split at h
  ·rename_i id ep kd o sb k ep0 bd hk hs
   obtain ⟨h1,h2⟩:=cond_none h
   obtain rfl:=qY h1
   obtain rfl:=qB h2
   have hm:=lkP_ok hk
   obtain ⟨bd',h3,_⟩:=hS _ hm bd (by rw [hs])
   exact .ref hm hs h3
  ·cases h
 ·split at h
  ·rename_i id ep off n o sb k ep0 t m els hk hs
   obtain ⟨h1,h2⟩:=cond_none h
   obtain rfl:=qY h1
   obtain rfl:=qB h2
   have hm:=lkP_ok hk
   obtain ⟨bd',h3,h4⟩:=hS _ hm _ (by rw [hs])
   rw [h4 _ _ _ rfl] at h3
   exact .row hm hs h3
  ·cases h
 ·obtain rfl:=qB h
  exact .any _
 ·obtain ⟨h1,h2⟩:=cond_none h
  obtain rfl:=qB h2
  exact .pu h1
theorem rmAg_ok {π:List (Nat × Nat)} {σ σ':Sto} {e:Nat->Nat} (hS:RmS π σ σ' e) {x x':AV} (h:rmAg π σ e x=some x'):Rm π σ σ' x x':=by
 unfold rmAg at h
 split at h
 ·split at h
  ·rename_i cs r hr
   obtain ⟨h1,h2⟩:=cond_none h
   obtain rfl:=qB h2
   obtain ⟨g1,g2⟩:=optL_ok hr
   exact .agg g1 (fun j x hj=>qW.1 h1 x (qQ hj)) fun j x x' hx hx'=>rmA0_ok hS (g2 j x x' hx hx')
  ·cases h
 ·exact rmA0_ok hS h
theorem rmA1_ok {π:List (Nat × Nat)} {σ σ':Sto} {e:Nat->Nat} (hS:RmS π σ σ' e) {x x':AV} (h:rmA1 π σ e x=some x'):Rm π σ σ' x x':=by
 unfold rmA1 at h
 split at h
 ·split at h
  ·rename_i a' c' ha hc
   obtain rfl:=qB h
   obtain ⟨g1,g2⟩:=optL_ok ha
   obtain ⟨g3,g4⟩:=optL_ok hc
   exact .fn g1 g3 (fun j x x' hx hx'=>rmAg_ok hS (g2 j x x' hx hx')) fun j x x' hx hx'=>rmAg_ok hS (g4 j x x' hx hx')
  ·cases h
 ·exact rmA0_ok hS h
theorem rmA2_ok {π:List (Nat × Nat)} {σ σ':Sto} {e:Nat->Nat} (hS:RmS π σ σ' e) {x x':AV} (h:rmA2 π σ e x=some x'):Rm π σ σ' x x':=by
 unfold rmA2 at h
 split at h
 ·split at h
  ·rename_i cs r hr
   obtain ⟨h1,h2⟩:=cond_none h
   obtain rfl:=qB h2
   obtain ⟨g1,g2⟩:=optL_ok hr
   exact .agg g1 (fun j x hj=>qW.1 h1 x (qQ hj)) fun j x x' hx hx'=>rmA1_ok hS (g2 j x x' hx hx')
  ·cases h
 ·exact rmA1_ok hS h
theorem rmA_ok {π:List (Nat × Nat)} {σ σ':Sto} {e:Nat->Nat} (hS:RmS π σ σ' e) {x x':AV} (h:rmA π σ e x=some x'):Rm π σ σ' x x':=by
 unfold rmA at h
 split at h
 ·split at h
  ·rename_i cs r hr
   obtain rfl:=qB h
   obtain ⟨g1,g2⟩:=optL_ok hr
   exact .tup g1 fun j x x' hx hx'=>rmA2_ok hS (g2 j x x' hx hx')
  ·cases h
 ·exact rmA2_ok hS h
def deN1 (x:AV):AV:=cond (isNilB x) (.sl []) x
def deN:AV->AV
 | .agg cs=>.agg (cs.map deN1)
 | x=>deN1 x
theorem Rm.deN1 {π:List (Nat × Nat)} {σ σ':Sto} {x y:AV} (h:Rm π σ σ' x y):Rm π σ σ' x (deN1 y):=by
 cases hn:isNilB y
 ·rw [Sm.deN1,hn];exact h
 ·rw [Sm.deN1,hn]
  obtain rfl:=isNilB_ok hn
  cases h with
  | pu h=>exact .nil
theorem deN1_one {x:AV} (h:x.one=true):(deN1 x).one=true:=by
 cases hn:isNilB x
 ·rw [deN1,hn];exact h
 ·rw [deN1,hn];rfl
theorem Rm.deN {π:List (Nat × Nat)} {σ σ':Sto} {x y:AV} (h:Rm π σ σ' x y):Rm π σ σ' x (deN y):=by
 unfold Sm.deN
 split
 ·cases h with
  | pu h=>cases h
  | agg hl h1 h =>
   refine .agg (by rw [qH,hl]) (fun j x hj=>?_) fun j x x' hx hx'=>?_
   ·rw [qE] at hj
    obtain ⟨y,hy,rfl⟩:=vT.1 hj
    exact deN1_one (h1 j y hy)
   ·rw [qE] at hx'
    obtain ⟨y,hy,rfl⟩:=vT.1 hx'
    exact (h j x y hx hy).deN1
 ·exact h.deN1
def rmB (π:List (Nat × Nat)) (σ:Sto) (e:Nat->Nat):Body->Option Body
 | .box t cs=>match optL (cs.map (rmA1 π σ e)) with
  | some r=>cond (r.all AV.one) (some (.box t r)) none
  | none=>none
 | .row t m els=>some (.row t m els)
 | .ghost _ _ _=>none
 | .obj o=>some (.obj o)
 | .nest _ _=>none
theorem rmB_ok {π:List (Nat × Nat)} {σ σ':Sto} {e:Nat->Nat} (hS:RmS π σ σ' e) {x x':Body} (h:rmB π σ e x=some x'):RmB π σ σ' x x':=by
 unfold rmB at h
 split at h
 ·split at h
  ·rename_i t cs r hr
   obtain ⟨h1,h2⟩:=cond_none h
   obtain rfl:=qB h2
   obtain ⟨g1,g2⟩:=optL_ok hr
   exact .box g1 (fun j x hj=>qW.1 h1 x (qQ hj)) fun j x x' hx hx'=>rmA1_ok hS (g2 j x x' hx hx')
  ·cases h
 ·obtain rfl:=qB h
  exact .row _ _ _
 ·cases h
 ·obtain rfl:=qB h
  exact .obj _
 ·cases h
def rmS (π0:List (Nat × Nat)) (σ:Sto) (e:Nat->Nat):List (Nat × Nat)->Option (List (Nat × SB))
 | []=>some []
 | p::π=>match σ p.1 with
  | ⟨_,some bd⟩=>match rmB π0 σ e bd,rmS π0 σ e π with
   | some bd',some l=>some ((p.2,⟨e p.2,some bd'⟩)::l)
   | _,_=>none
  | _=>none
theorem rmS_ok {π0:List (Nat × Nat)} {σ:Sto} {e:Nat->Nat}:∀{π:List (Nat × Nat)} {l:List (Nat × SB)},rmS π0 σ e π=some l->l.map (·.1)=π.map (·.2) /\
  ∀q∈l,∃p∈π,p.2=q.1/\∃bd bd',(σ p.1).body=some bd/\rmB π0 σ e bd=some bd'/\q.2=⟨e p.2,some bd'⟩
 | [],l,h=>by
  obtain rfl:=qB h
  exact ⟨rfl,fun q hq=>by cases hq⟩
 | p::π,l,h=>by
  unfold rmS at h
  split at h
  ·rename_i ep bd hs
   split at h
   ·rename_i bd' l' hb hl
    obtain rfl:=qB h
    obtain ⟨h1,h2⟩:=rmS_ok hl
    refine ⟨by rw [vB,vB,h1],fun q hq=>?_⟩
    rcases vC.1 hq with rfl | hq
    ·exact ⟨p,vH,rfl,bd,bd',by rw [hs],hb,rfl⟩
    ·obtain ⟨p',hp',g⟩:=h2 q hq
     exact ⟨p',vG _ hp',g⟩
   ·cases h
  ·cases h
theorem lkB_in:∀{l:List (Nat × SB)} {q:Nat × SB},(l.map (·.1)).Nodup->q∈l->lkB l q.1=q.2
 | a::l,q,hn,hq=>by
  rw [vB,vR] at hn
  show cond (Nat.beq q.1 a.1) a.2 (lkB l q.1)=q.2
  rcases vC.1 hq with rfl | hq
  ·rw [beq_t,cond_true]
  ·rw [beq_f (fun e=>hn.1 (by rw [<- e];exact qX (f:=(·.1)) hq)),cond_false]
   exact lkB_in hn.2 hq
theorem lkB_some:∀{l:List (Nat × SB)} {k:Nat} {bd:Body},(lkB l k).body=some bd->∃q∈l,q.1=k/\q.2=lkB l k
 | [],k,bd,h=>by cases h
 | a::l,k,bd,h=>by
  have e0:lkB (a::l) k=cond (Nat.beq k a.1) a.2 (lkB l k):=rfl
  cases hb:Nat.beq k a.1
  ·rw [hb,cond_false] at e0
   rw [e0] at h ⊢
   obtain ⟨q,hq,h1,h2⟩:=lkB_some h
   exact ⟨q,vG _ hq,h1,h2⟩
  ·rw [hb,cond_true] at e0
   exact ⟨a,vH,(qY hb).symm,e0.symm⟩
theorem ups_at:∀{l:List (Nat × SB)} {σ:Sto} {q:Nat × SB},(l.map (·.1)).Nodup->q∈l->ups σ l q.1=q.2
 | a::l,σ,q,hn,hq=>by
  rw [vB,vR] at hn
  show ups (up1 σ a.1 a.2) l q.1=q.2
  rcases vC.1 hq with rfl | hq
  ·rw [upsC_out hn.1]
   show cond (Nat.beq q.1 q.1) q.2 _=q.2
   rw [beq_t,cond_true]
  ·exact ups_at hn.2 hq
theorem rmS_RmS {π:List (Nat × Nat)} {σ σ':Sto} {e:Nat->Nat} {l:List (Nat × SB)} (h:rmS π σ e π=some l) (hl:∀q∈l,σ' q.1=q.2) (hn:(π.map (·.2)).Nodup):RmS π σ σ' e:=by
 intro p hp bd hbd
 obtain ⟨h1,h2⟩:=rmS_ok h
 obtain ⟨q,hq,hq1⟩:∃q∈l,q.1=p.2:=vF.1 (by rw [h1];exact qX (f:=(·.2)) hp)
 obtain ⟨p',hp',e1,bd0,bd',e2,e3,e4⟩:=h2 q hq
 have:∀(π:List (Nat × Nat)),(π.map (·.2)).Nodup->p∈π->p'∈π->p'.2=p.2->p'=p:=by
  intro π
  induction π with
  | nil=>intro _ h;cases h
  | cons a π ih =>
   intro hn h5 h6 he
   rw [vB,vR] at hn
   rcases vC.1 h5 with g5 | g5 <;> rcases vC.1 h6 with g6 | g6
   ·rw [g5,g6]
   ·exact (hn.1 (by rw [<- g5,<- he];exact qX (f:=(·.2)) g6)).elim
   ·exact (hn.1 (by rw [<- g6,he];exact qX (f:=(·.2)) g5)).elim
   ·exact ih hn.2 g5 g6 he
 obtain rfl:=this π hn hp hp' (e1.trans hq1)
 refine ⟨bd',by rw [<- hq1,hl q hq,e4,hq1],fun t m els hr=>?_⟩
 obtain rfl:=qB (hbd.symm.trans e2)
 subst hr
 exact (qB e3).symm
def nodupB:List Nat->Bool
 | []=>true
 | x::l=>l.all (fun y=>!Nat.beq x y) && nodupB l
theorem nodupB_ok:∀{l:List Nat},nodupB l=true->l.Nodup
 | [],_=>List.nodup_nil
 | x::l,h=>by
  simp only [nodupB,qN] at h
  refine vR.2 ⟨fun hx=>?_,nodupB_ok h.2⟩
  have:=qW.1 h.1 x hx
  rw [Nat.beq_refl] at this
  cases this
def shB (a b:Option Body):Bool:=match a,b with
 | some (.box t cs),some (.box t' cs')=>Nat.beq t t' && Nat.beq cs.length cs'.length
 | some (.obj _),some (.obj _)=>true
 | _,_=>false
theorem shB_ok {a b:Option Body} (h:shB a b=true):∃x y,a=some x/\b=some y/\y.sh=x.sh:=by
 unfold shB at h
 split at h
 ·rename_i t cs t' cs'
  rw [qN] at h
  refine ⟨_,_,rfl,rfl,?_⟩
  show (true,t',cs'.length,0)=(true,t,cs.length,0)
  rw [qY h.1,qY h.2]
 ·exact ⟨_,_,rfl,rfl,rfl⟩
 ·cases h
def kept (σ:Sto) (π π':List (Nat × Nat)) (ks:List Nat) (B1:List (Nat × SB)) (id:Nat):Bool:=match lkP π id with
 | some k=>match lkP π' k,lkB B1 k with
  | some id',⟨0,some bd⟩=>Nat.beq id' id && ks.any (Nat.beq k) && shB (σ id).body (some bd)
  | _,_=>false
 | none=>false
theorem kept_ok {σ:Sto} {π π':List (Nat × Nat)} {ks:List Nat} {B1:List (Nat × SB)} {id:Nat} (h:kept σ π π' ks B1 id=true):∃k∈ks,(id,k)∈π/\(k,id)∈π'/\∃bd bd1,lkB B1 k=⟨0,some bd1⟩/\(σ id).body=some bd/\bd1.sh=bd.sh:=by
 unfold kept at h
 split at h
 ·rename_i k hk
  split at h
  ·rename_i id' bd hk' hb
   simp only [qN] at h
   obtain rfl:=qY h.1.1
   obtain ⟨k',hk1,hk2⟩:=List.any_eq_true.1 h.1.2
   obtain rfl:=qY hk2
   obtain ⟨x,y,e1,e2,e3⟩:=shB_ok h.2
   obtain rfl:=qB e2
   exact ⟨k,hk1,lkP_ok hk,lkP_ok hk',x,bd,hb,e1,e3⟩
  ·cases h
 ·cases h
def ep2 (σ:Sto) (π π':List (Nat × Nat)) (ks:List Nat) (B1:List (Nat × SB)) (id:Nat):Nat:=cond (kept σ π π' ks B1 id) (σ id).ep ((σ id).ep+1)
def gone (σ:Sto) (π':List (Nat × Nat)):List (Nat × Nat)->List (Nat × SB)
 | []=>[]
 | p::π=>cond (π'.any fun q=>Nat.beq p.1 q.2) (gone σ π' π) ((p.1,⟨(σ p.1).ep,none⟩)::gone σ π' π)
theorem gone_in {σ:Sto} {π':List (Nat × Nat)}:∀{π:List (Nat × Nat)} {q:Nat × SB},q∈gone σ π' π->q.2=⟨(σ q.1).ep,none⟩/\q.1∈π.map (·.1)
 | [],q,h=>by cases h
 | p::π,q,h=>by
  unfold gone at h
  cases hb:π'.any fun q=>Nat.beq p.1 q.2
  ·rw [hb,cond_false] at h
   rcases vC.1 h with rfl | h
   ·exact ⟨rfl,by simp⟩
   ·exact ⟨(gone_in h).1,vG _ (gone_in h).2⟩
  ·rw [hb,cond_true] at h
   exact ⟨(gone_in h).1,vG _ (gone_in h).2⟩
theorem gone_all {σ:Sto} {π':List (Nat × Nat)}:∀{π:List (Nat × Nat)} {p:Nat × Nat},p∈π->p.1∈(gone σ π' π).map (·.1)\/p.1∈π'.map (·.2)
 | a::π,p,h=>by
  unfold gone
  cases hb:π'.any fun q=>Nat.beq a.1 q.2
  ·rw [cond_false]
   rcases vC.1 h with rfl | h
   ·exact .inl (by simp)
   ·rcases gone_all (σ:=σ) (π':=π') h with h | h
    ·exact .inl (vG _ h)
    ·exact .inr h
  ·rw [cond_true]
   rcases vC.1 h with rfl | h
   ·obtain ⟨q,hq,e⟩:=List.any_eq_true.1 hb
    exact .inr (by rw [qY e];exact qX (f:=(·.2)) hq)
   ·exact gone_all h
def okO (σ:Sto) (π π':List (Nat × Nat)) (B0:List (Nat × SB)):Bool :=
 nodupB (π.map (·.2)) && nodupB (π.map (·.1)) && nodupB (π'.map (·.2)) && nodupB (π'.map (·.1)) && π.all (fun p=>Nat.blt p.2 900) && π'.all (fun p=>Nat.blt p.1 900) && nodupB (π'.map (·.2)++(gone σ π' π).map (·.1))
theorem RG.own {P : Program} {N : Nat} {ops : Array Oper} {rest : List Oper} {s : St} {K : St -> List Eff -> Prop} {o : Oper} {c : Call} {f : FuncId} {xs zs zs' : List AV} {r r' : AV} {π π' : List (Nat × Nat)} {ks : List Nat} {B0 B0' B1 up0 : List (Nat × SB)} {d : Option Nat}
  (h:∀q,MDoes P f zs (gl q ks B0) r (gl q ks B1)) (hg:gd ops s o=some true) (ho:o.op = .call c) (ha:argsA s c=some (f,xs))
  (hz:optL (xs.map (rmA π s.σ (fun _=>0)))=some zs') (hz':zs'.map deN=zs) (hb:rmS π s.σ (fun _=>0) π=some B0') (hb':B0'=B0)
  (hu:rmS π' (lkB B1) (ep2 s.σ π π' ks B1) π'=some up0) (hr':rmA π' (lkB B1) (ep2 s.σ π π' ks B1) r=some r') (hk:okO s.σ π π' B0=true) (hd:o.dst=d)
  (hr:RG P N ops rest ⟨putS N s.ts d r',ups s.σ (up0++gone s.σ π' π)⟩ fun s' Es=>K s' (⟨r',up0++gone s.σ π' π,[]⟩::Es)):RG P N ops (o::rest) s K:=by
 subst hz' hb' hd
 unfold argsA at ha
 split at ha
 case h_2=>cases ha
 rename_i fop hc
 split at ha
 case h_2=>cases ha
 rename_i f' first caps hf
 simp only [qU,qZ] at ha
 obtain ⟨rfl,rfl⟩:=ha
 simp only [okO,qN] at hk
 obtain ⟨⟨⟨⟨⟨⟨k1,k2⟩,k3⟩,k4⟩,k5⟩,k6⟩,k7⟩:=hk
 have n1:=nodupB_ok k1
 have n3:=nodupB_ok k3
 obtain ⟨u1,u2⟩:=rmS_ok hu
 obtain ⟨b1,b2⟩:=rmS_ok hb
 have hkeys:((up0++gone s.σ π' π).map (·.1)).Nodup:=by rw [vZ,u1];exact nodupB_ok k7
 have hat:∀q∈up0++gone s.σ π' π,ups s.σ (up0++gone s.σ π' π) q.1=q.2:=fun q hq=>ups_at hkeys hq
 have hS0:RmS π s.σ (lkB B0') (fun _=>0):=rmS_RmS hb (fun q hq=>lkB_in (by rw [b1];exact n1) hq) n1
 have hS1:RmS π' (lkB B1) (ups s.σ (up0++gone s.σ π' π)) (ep2 s.σ π π' ks B1):=rmS_RmS hu (fun q hq=>hat q (vN _ hq)) n3
 obtain ⟨z1,z2⟩:=optL_ok hz
 have body2:∀id∈(up0++gone s.σ π' π).map (·.1),∀bd2,(ups s.σ (up0++gone s.σ π' π) id).body=some bd2->∃p∈π',p.2=id/\ups s.σ (up0++gone s.σ π' π) id=⟨ep2 s.σ π π' ks B1 id,some bd2⟩/\∃bd,(lkB B1 p.1).body=some bd/\rmB π' (lkB B1) (ep2 s.σ π π' ks B1) bd=some bd2:=fun id hid bd2 hb2=>by
  obtain ⟨q,hq,rfl⟩:=vF.1 hid
  rw [hat q hq] at hb2 ⊢
  rcases vA.1 hq with h1 | h1
  ·obtain ⟨p,hp,e1,bd,bd',e2,e3,e4⟩:=u2 q h1
   rw [e4] at hb2
   obtain rfl:=qB hb2
   exact ⟨p,hp,e1,by rw [e4,e1],bd,e2,e3⟩
  ·rw [(gone_in h1).1] at hb2
   cases hb2
 refine RG.opB hg (fn_bd (h fun _ => none).fn ho hc hf) (oploc_callO (π := π) (π' := π') (ks := ks) ho hc hf h (by rw [qH]; exact z1) (fun j x z hx hz => by
   rw [qE] at hz
   obtain ⟨y,hy,rfl⟩:=vT.1 hz
   exact (rmA_ok hS0 (z2 j x y hx hy)).deN) n1 (nodupB_ok k2) (fun p hp=>qV (qW.1 k5 p hp)) (fun k bd' hbd=>?_) (fun p hp=>?_) n3
  (fun p hp q hq e=>?_) (fun p hp=>qV (qW.1 k6 p hp)) (fun p hp=>?_) (fun id hid bd2 hb2=>?_) (fun id hid=>?_) (fun id hid he bd2 hb2=>?_) (rmA_ok hS1 hr')) hr
 ·obtain ⟨q,hq,e1,e2⟩:=lkB_some hbd
  obtain ⟨p,hp,e3,bd,bd1,e4,e5,e6⟩:=b2 q hq
  rw [<- e2,e6] at hbd
  obtain rfl:=qB hbd
  exact ⟨p,hp,e3.trans e1,bd,e4,rmB_ok hS0 e5⟩
 ·rw [vZ,vA,u1]
  exact (gone_all hp).symm
 ·have : ∀ (l : List (Nat × Nat)), (l.map (·.1)).Nodup -> p ∈ l -> q ∈ l -> p = q := by
   intro l
   induction l with
   | nil=>intro _ h;cases h
   | cons a l ih =>
    intro hl h5 h6
    rw [vB,vR] at hl
    rcases vC.1 h5 with g5 | g5 <;> rcases vC.1 h6 with g6 | g6
    ·rw [g5,g6]
    ·exact (hl.1 (by rw [<- g5,e];exact qX (f:=(·.1)) g6)).elim
    ·exact (hl.1 (by rw [<- g6,<- e];exact qX (f:=(·.1)) g5)).elim
    ·exact ih hl.2 g5 g6
  exact this π' (nodupB_ok k4) hp hq
 ·rw [vZ,vA,u1]
  exact .inl (qX (f:=(·.2)) hp)
 ·obtain ⟨p,hp,e1,_,bd,e2,e3⟩:=body2 id hid bd2 hb2
  exact ⟨p,hp,e1,bd,e2,rmB_ok hS1 e3⟩
 ·obtain ⟨q,hq,rfl⟩:=vF.1 hid
  rw [hat q hq]
  rcases vA.1 hq with h1 | h1
  ·obtain ⟨p,hp,e1,bd,bd',e2,e3,e4⟩:=u2 q h1
   rw [e4,e1]
   unfold ep2
   cases kept s.σ π π' ks B1 q.1
   ·exact Nat.le_succ _
   ·exact qJ _
  ·rw [(gone_in h1).1];exact qJ _
 ·obtain ⟨p,hp,e1,e0,bd,e2,e3⟩:=body2 id hid bd2 hb2
  rw [e0] at he
  have hkp:kept s.σ π π' ks B1 id=true:=by
   replace he:ep2 s.σ π π' ks B1 id=(s.σ id).ep:=he
   unfold ep2 at he
   cases hk:kept s.σ π π' ks B1 id
   ·rw [hk,cond_false] at he;omega
   ·rfl
  obtain ⟨k,hk,m1,m2,bd0,bd1,g1,g2,g3⟩:=kept_ok hkp
  have hbd:rmB π' (lkB B1) (ep2 s.σ π π' ks B1) bd1=some bd2:=by
   have:p=(k,id):=by
    have:∀(l:List (Nat × Nat)),(l.map (·.2)).Nodup->p∈l->(k,id)∈l->p=(k,id):=by
     intro l
     induction l with
     | nil=>intro _ h;cases h
     | cons a l ih =>
      intro hl h5 h6
      rw [vB,vR] at hl
      rcases vC.1 h5 with g5 | g5 <;> rcases vC.1 h6 with g6 | g6
      ·rw [g5,g6]
      ·exact (hl.1 (by rw [<- g5,e1];exact qX (f:=(·.2)) g6)).elim
      ·exact (hl.1 (by rw [<- g6];show id∈_;rw [<- e1];exact qX (f:=(·.2)) g5)).elim
      ·exact ih hl.2 g5 g6
    exact this π' n3 hp m2
   rw [this] at e2
   have:bd=bd1:=qB (e2.symm.trans (by show (lkB B1 k).body=_;rw [g1]))
   rw [<- this];exact e3
  refine ⟨k,hk,m1,m2,⟨bd1,g1⟩,bd0,g2,?_⟩
  rw [<- g3]
  have hR:=rmB_ok hS1 hbd
  cases hR with
  | box hl _ _=>show (true,_,_,0)=(true,_,_,0);rw [hl]
  | row=>rfl
  | obj=>rfl
def ownR (σ:Sto) (π π':List (Nat × Nat)) (ks:List Nat) (B1:List (Nat × SB)) (r:AV):Option (AV × List (Nat × SB)) :=
 match rmS π' (lkB B1) (ep2 σ π π' ks B1) π',rmA π' (lkB B1) (ep2 σ π π' ks B1) r with
 | some up0,some r'=>forceV r' fun r'=>forceUN (up0++gone σ π' π) fun up=>some (r',up)
 | _,_=>none
theorem RG.ownN {P:Program} {N:Nat} {ops:Array Oper} {rest:List Oper} {ts:Nat->AV} {σ:Sto} {K:St->List Eff->Prop} {o:Oper} {c:Call} {f:FuncId} {xs zs zs':List AV} {r r':AV} (π π':List (Nat × Nat)) {ks:List Nat} {B0 B0' B1 up:List (Nat × SB)} {d:Option Nat}
  (h:∀q,MDoes P f zs (gl q ks B0) r (gl q ks B1)) (hg:gd ops ⟨ts,σ⟩ o=some true) (ho:o.op = .call c) (ha:argsA ⟨ts,σ⟩ c=some (f,xs))
  (hz:optL (xs.map (rmA π σ (fun _=>0)))=some zs') (hz':zs'.map deN=zs) (hb:rmS π σ (fun _=>0) π=some B0') (hb':B0'=B0)
  (hu:ownR σ π π' ks B1 r=some (r',up)) (hk:okO σ π π' B0=true) (hd:o.dst=d)
  (hr:RG P N ops rest ⟨putS N ts d r',ups σ up⟩ fun s' Es=>K s' (⟨r',up,[]⟩::Es)):RG P N ops (o::rest) ⟨ts,σ⟩ K:=by
 unfold ownR at hu
 split at hu
 ·rename_i up0 r1 e1 e2
  simp only [forceV_eq,forceUN_eq,qU,qZ] at hu
  obtain ⟨rfl,rfl⟩:=hu
  exact RG.own h hg ho ha hz hz' hb hb' e1 e2 hk hd hr
 ·cases hu
theorem Rel.toF {W:World} {F F':Nat->Prop} {μ:Mu} {σ:Sto} (hF:∀b,F b->F' b) {x:AV} {v:Value} (h:Rel W F μ σ x v):Rel W F' μ σ x v:=by
 induction h with
 | pure h=>exact .pure (h.to hF)
 | own id ep off v he h1 h=>exact .own id ep off v he h1 h
 | el id ep k j v he h1 h=>exact .el id ep k j v he h1 h
 | row id ep off n v he h1 h=>exact .row id ep off n v he h1 h
 | ref id ep k v he h1 h=>exact .ref id ep k v he h1 h
 | agg cs vs hl h1 _ ih=>exact .agg cs vs hl h1 ih
 | tup cs vs hl _ ih=>exact .tup cs vs hl ih
 | fn f first caps fs cs hf hc _ _ ih ih'=>exact .fn f first caps fs cs hf hc ih ih'
 | any v=>exact .any v
inductive RnF (l:List Nat) (σ σ':Sto):AV->AV->Prop where
 | rn {x x':AV} (h:Rn σ σ' x x'):RnF l σ σ' x x'
 | fz {x y:AV} {l':List Nat} (h:Fz σ x y l') (hl:∀i∈l',i∈l):RnF l σ σ' x y
theorem RnF.is {l:List Nat} {σ σ':Sto} {x y:AV} (e:x=y) (h:y.pu1=true):RnF l σ σ' x y:=.rn (Rn.is e h)
theorem RnF.fzA {l:List Nat} {σ σ':Sto} {x y y':AV} {l':List Nat} (h:fzA σ 6 x=some (y,l')) (hl:(l'.all fun i=>l.any (Nat.beq i))=true) (hy:y=y'):RnF l σ σ' x y':=by
 subst hy
 refine .fz (fzA_ok 6 h) fun i hi=>?_
 obtain ⟨j,hj,e⟩:=List.any_eq_true.1 (qW.1 hl i hi)
 rw [qY e];exact hj
theorem RnF.rel {W:World} {F:Nat->Prop} {μ:Mu} {l:List Nat} {σ σ':Sto} (hi:Inv W F μ σ) {x x':AV} {v:Value} (h:RnF l σ σ' x x') (hx:Rel W F μ σ x v):Rel W (fun b=>F b\/Beh μ σ l b) μ σ' x' v:=by
 cases h with
 | rn h=>exact (h.rel hx).toF fun b hb=>.inl hb
 | fz h hl=>exact .pure ((h.rel hi hx).1.to fun b hb=>hb.imp id fun ⟨id,g1,g2⟩=>⟨id,hl id g1,g2⟩)
def WkTF (l:List Nat) (s:St) (σ':Sto):List (Nat × AV)->Prop
 | []=>True
 | p::T=>RnF l s.σ σ' (s.ts p.1) p.2/\WkTF l s σ' T
inductive WkB1F (l:List Nat) (s:St) (σ':Sto) (id:Nat):SB->Prop where
 | old {sb:SB} (h:WkB1 s σ' id sb):WkB1F l s σ' id sb
 | box {t:TypeId} {cs cs':List AV} {ep ep':Nat} (h:s.σ id=⟨ep,some (.box t cs)⟩) (hl:cs'.length=cs.length) (h1:cs'.all AV.one=true) (hc:∀(j:Nat) (x x':AV),cs[j]?=some x->cs'[j]?=some x'->RnF l s.σ σ' x x'):WkB1F l s σ' id ⟨ep',some (.box t cs')⟩
def WkBF (l:List Nat) (s:St) (σ':Sto):List (Nat × SB)->Prop
 | []=>True
 | p::b=>WkB1F l s σ' p.1 p.2/\WkBF l s σ' b
theorem wkTF_ok {l:List Nat} {s:St} {σ':Sto}:∀{T:List (Nat × AV)},WkTF l s σ' T->∀t,RnF l s.σ σ' (s.ts t) (lkT T t)
 | [],_,_=>.rn (.any _)
 | p::T,h,t=>by
  show RnF l s.σ σ' (s.ts t) (cond (Nat.beq t p.1) p.2 (lkT T t))
  cases hb:Nat.beq t p.1
  ·exact wkTF_ok h.2 t
  ·rw [qY hb]
   exact h.1
inductive RnBF (l:List Nat) (σ σ':Sto):Body->Body->Prop where
 | rn {b b':Body} (h:RnB σ σ' b b'):RnBF l σ σ' b b'
 | box {t:TypeId} {cs cs':List AV} (hl:cs'.length=cs.length) (h1:∀(j:Nat) (x:AV),cs'[j]?=some x->x.one=true) (h:∀(j:Nat) (x x':AV),cs[j]?=some x->cs'[j]?=some x'->RnF l σ σ' x x'):RnBF l σ σ' (.box t cs) (.box t cs')
theorem wkBF_ok {l:List Nat} {s:St} {σ':Sto}:∀{b:List (Nat × SB)},WkBF l s σ' b->∀id bd',(lkB b id).body=some bd'->∃bd,(s.σ id).body=some bd/\RnBF l s.σ σ' bd bd'
 | [],_,id,bd',h=>by cases h
 | p::b,h,id,bd',hb=>by
  replace hb:(cond (Nat.beq id p.1) p.2 (lkB b id)).body=some bd':=hb
  cases hq:Nat.beq id p.1
  ·rw [hq] at hb
   exact wkBF_ok h.2 id bd' hb
  ·rw [hq] at hb
   replace hb:p.2.body=some bd':=hb
   rw [qY hq]
   have h1:=h.1
   obtain ⟨pid,psb⟩:=p
   cases h1 with
   | old h =>
    have:(lkB [(pid,psb)] pid).body=some bd':=by
     show (cond (Nat.beq pid pid) psb _).body=_
     rw [beq_t,cond_true];exact hb
    obtain ⟨bd,e1,e2⟩:=wkB_ok (s:=s) (σ':=σ') (l:=[(pid,psb)]) ⟨h,trivial⟩ pid bd' this
    exact ⟨bd,e1,.rn e2⟩
   | box h hl h1 hc =>
    obtain rfl:=qB hb
    exact ⟨_,by rw [h],.box hl (fun j x hj=>qW.1 h1 x (qQ hj)) hc⟩
theorem AW.freeze {P : Program} {N : Nat} {Q : Exit -> St -> Prop} {s : St} {c : Code} (l : List Nat) (T : List (Nat × AV)) (b : List (Nat × SB)) (ht : WkTF l s (lkB b) T) (hB : WkBF l s (lkB b) b) (hd : (l.all fun i => (lkB b i).body.isNone) = true)
  (h:AW P N c Q (stL T b)):AW P N c Q s:=by
 intro W F μ a hr
 have hi:=hr.inv
 have dead:∀i∈l,(lkB b i).body=none:=fun i hi=>by simpa using qW.1 hd i hi
 have own:∀x,Own μ (lkB b) x->Own μ s.σ x/\¬Beh μ s.σ l x:=fun x ⟨id,ep,bd,c,h1,h2⟩=>by
  obtain ⟨bd0,h3,_⟩:=wkBF_ok hB id bd (by rw [h1])
  refine ⟨⟨id,(s.σ id).ep,bd0,c,by rw [<- h3],h2⟩,fun ⟨id',g1,ep',bd',c',g2,g3⟩=>?_⟩
  have:=hi.inj id id' x c c' (by rw [h3];rfl) (by rw [g2];rfl) h2 g3
  subst this
  have:=dead _ g1
  rw [h1] at this
  cases this
 have hs:Stq W F μ s.σ W (fun x=>F x\/Beh μ s.σ l x) μ (lkB b) :=
  ⟨Kp.refl _ _,fun _ h=>.inl h,fun x hx=>hx.imp id fun ⟨id,_,ep,bd,c,h1,h2⟩=>.inl ⟨id,ep,bd,c,h1,h2⟩,fun x hx=>.inl (own x hx).1⟩
 have hrs:RS N W (fun x=>F x\/Beh μ s.σ l x) μ (stL T b) a:=by
  refine ⟨fun t=>(wkTF_ok ht t).rel hi (hr.ts t),hr.defers.go hs,hr.n,⟨fun id ep bd hb=>?_,fun x hx=>⟨(hi.apart x (own x hx).1).1,fun hF=>hF.elim (hi.apart x (own x hx).1).2 (own x hx).2⟩,fun id id' x c c' h1 h2=>?_,fun x hx=>hx.elim (hi.old x) fun ⟨id,_,ep,bd,c,h1,h2⟩=>(hi.apart x ⟨id,ep,bd,c,h1,h2⟩).1,hi.lay.go (fun _ h=>.inl h) fun _ _=>rfl⟩⟩
  ·obtain ⟨bd0,h3,hR⟩:=wkBF_ok hB id bd (by show (lkB b id).body=_;rw [show lkB b id=_ from hb])
   have hBd:=hi.body id (s.σ id).ep bd0 (by rw [<- h3])
   cases hR with
   | rn hR =>
    cases hR with
    | row t m els =>
     rcases hBd with h | ⟨bk,cap,cur,e1,e2,e3,e4,e5,e6,e7⟩
     ·exact .inl h
     ·refine .inr ⟨bk,cap,cur,e1,e2,e3,e4,e5,e6,fun k cs j x hk hj=>?_⟩
      obtain ⟨g1,v,g2,g3⟩:=e7 k cs j x hk hj
      exact ⟨g1,v,g2,g3.to fun b hb=>.inl hb⟩
    | rowT t m n els =>
     rcases hBd.take (σ':=s.σ) n with h | ⟨bk,cap,cur,e1,e2,e3,e4,e5,e6,e7⟩
     ·exact .inl h
     ·refine .inr ⟨bk,cap,cur,e1,e2,e3,e4,e5,e6,fun k cs j x hk hj=>?_⟩
      obtain ⟨g1,v,g2,g3⟩:=e7 k cs j x hk hj
      exact ⟨g1,v,g2,g3.to fun b hb=>.inl hb⟩
    | obj o=>exact hBd
    | @nest t els els' hl h1 hrn =>
     rcases hBd with ⟨hn,rfl⟩ | ⟨b,cap,cur,hp,hh,q1,q2,q3,q4⟩
     ·exact .inl ⟨hn,uA.1 hl⟩
     ·refine .inr ⟨b,cap,cur,hp,hh,by omega,q2,q3,fun k x' hk=>⟨h1 k x' hk,?_⟩⟩
      obtain ⟨x,hx⟩:∃x,els[k]?=some x:=⟨_,qA (by rw [<- hl];exact (qC.1 hk).1)⟩
      obtain ⟨_,v,hv,hr'⟩:=q4 k x hx
      exact ⟨v,hv,((hrn k x x' hx hk).rel hr').toF fun b hb=>.inl hb⟩
    | ghost h h'=>exact ⟨hBd.1,by rw [show (stL T b).σ=lkB b from rfl,h'];exact qJ _,fun bd _=>hBd.2.2 _ h⟩
    | @box t cs cs' hl h1 hrn =>
     obtain ⟨bk,c,vs,hm,hw,hlv,hv⟩:=hBd
     refine ⟨bk,c,vs,hm,hw,by rw [hlv,hl],fun j x' v hj hvj=>⟨h1 j x' hj,?_⟩⟩
     obtain ⟨x,hxj⟩:∃x,cs[j]?=some x:=⟨_,qA (by rw [<- hl];exact (qC.1 hj).1)⟩
     exact ((hrn j x x' hxj hj).rel (hv j x v hxj hvj).2).toF fun b hb=>.inl hb
   | @box t cs cs' hl h1 hrn =>
    obtain ⟨bk,c,vs,hm,hw,hlv,hv⟩:=hBd
    refine ⟨bk,c,vs,hm,hw,by rw [hlv,hl],fun j x' v hj hvj=>⟨h1 j x' hj,?_⟩⟩
    obtain ⟨x,hxj⟩:∃x,cs[j]?=some x:=⟨_,qA (by rw [<- hl];exact (qC.1 hj).1)⟩
    exact (hrn j x x' hxj hj).rel hi (hv j x v hxj hvj).2
  ·have g : ∀ id, (lkB b id).body.isSome = true -> (s.σ id).body.isSome = true := fun id hb => by
    obtain ⟨bd',e⟩:=vV.1 hb
    obtain ⟨bd,e',_⟩:=wkBF_ok hB id bd' e
    rw [e'];rfl
   exact hi.inj id id' x c c' (g id h1) (g id' h2)
 refine Code.wpA_mono ?_ (h W _ μ a hrs)
 rintro e a' W' ⟨F',μ',s'',hq,hr',hs'⟩
 exact ⟨F',μ',s'',hq,hr',(hs.d rfl).trans hs'⟩
theorem op_append0 {P:Program} {N:Nat} {o:Oper} {s:St} {c:Call} {x y:Operand} {t e id cp:Nat} {A:Option Addr} {ti ei:TI} {els:List (List AV)} (ho:o.op = .call c) (hc:c.callee = .builtin .append) (ha:c.args = #[x,y]) (hat:c.argTypes = #[t,t]) (ht:TiOk P t ti) (hk:ti.k = .slice e) (he:TiOk P e ei) (h0:(ei.n == 0)=false)
  (hx:(∃ep,s.ev x = .row id ep 0 els.length/\s.σ id=⟨ep,some (.row e ei.n els)⟩)\/(s.ev x = .raw (.slice none 0 0)/\els=[]))
  (hy:s.ev y = .raw (.slice A 0 cp)) (hb:els.length*ei.sz<=140737488355328) (h63:els.length<=9223372036854775807) :
  OpLoc P N o s ⟨.row id ((s.σ id).ep+1) 0 els.length,[(id,⟨(s.σ id).ep+1,some (.row e ei.n els)⟩)],[]⟩ :=
 op_appendX (els2:=[]) ho hc ha hat ht hk he h0 [] hx (fun s' W F μ v _ hi hv=>by
  rw [hy] at hv
  exact ⟨A,cp,[],hv.raw',RowC.nil _ _ _,.inr rfl⟩) hb h63 (vW _) rfl
theorem loadVar_rel {P:Program} {W:World} {F:Nat->Prop} {μ:Mu} {σ:Sto} (hi:Inv W F μ σ) {t:TypeId} {ti:TI} {x:AV} {v0:Value} {cs:List AV} {l:List Nat} {r:AV} (ht:TiOk P t ti) (hx:Rel W F μ σ x v0) (hp:CA σ x cs l) (hr:ldA ti cs=some r) :
  ∃A,v0 = .pointer (some A)/\∃v,(loadVar t A).run P W = .ok v W/\Rel W F μ σ r v:=by
 obtain ⟨b,off,hv,hc⟩:=hp.cells hi hx
 refine ⟨_,hv,?_⟩
 unfold ldA at hr
 cases hag:ti.k.ag with
 | true =>
  rw [hag,cond_true] at hr
  cases hle:Nat.ble ti.n cs.length with
  | false=>rw [hle] at hr;cases hr
  | true =>
   have hn:ti.n<=cs.length:=qV hle
   rw [hle,cond_true] at hr
   obtain rfl:=qB hr
   let f:Nat->Value:=fun j=>(W.cell? ⟨b,off+j,none⟩).getD undef
   have get:∀(j:Nat) (y:AV),cs[j]?=some y->W.cell? ⟨b,off+j,none⟩=some (f j)/\y.one=true/\Rel W F μ σ y (f j):=fun j y hj=>by
    obtain ⟨g1,u,g2,g3⟩:=hc j y hj
    have:f j=u:=by simp only [f,g2];rfl
    exact ⟨by rw [this];exact g2,g1,by rw [this];exact g3⟩
   have hrun:(loadCells ⟨b,off,none⟩ ti.n).run P W = .ok ((List.range ti.n).map f).toArray W:=run_loadCells W _ ti.n f fun j hj=>by
    rw [ca_ptr (W:=W)]
    exact (get j _ (qA (by omega))).1
   refine ⟨.agg ((List.range ti.n).map f).toArray,?_,.agg _ _ ?_ (fun j x hj=>?_) (fun j x v hj hv'=>?_)⟩
   ·simp only [loadVar,Sem.run_bind,Sem.run_pure,Result.andThen_ok,ht.agg,hag,if_true,ht.size,hrun]
   ·simp;omega
   ·rw [uB] at hj
    split at hj
    ·exact (get j x hj).2.1
    ·cases hj
   ·rw [uB] at hj
    split at hj
    ·rename_i hlt
     have:f j=v:=by simpa [hlt] using hv'
     rw [<- this]
     exact (get j x hj).2.2
    ·cases hj
 | false =>
  rw [hag,cond_false,List.head?_eq_getElem?] at hr
  obtain ⟨g1,u,g2,g3⟩:=hc 0 _ hr
  refine ⟨u,?_,g3⟩
  have hrun:(load ⟨b,off,none⟩).run P W = .ok u W:=by simp [load,Sem.run,show W.cell? ⟨b,off,none⟩=some u from g2]
  simp only [loadVar,Sem.run_bind,Sem.run_pure,Result.andThen_ok,ht.agg,hag,Bool.false_eq_true,if_false,hrun]
theorem run_buildSlice0 {P:Program} (w:World) (t e:TypeId) (ie:TypeInfo) (hu:P.underlying t=some (.slice e)) (hie:P.info? e=some ie) :
  (Instr.buildSlice t 0 #[]).run P w = .ok (.slice (some ⟨w.heap.size,0,none⟩) 0 0) (w.alloc (.cells #[] e)):=by
 have e0:Array.map (fun _=>(default:Value)) (Array.range 0) = #[]:=by
  apply Array.eq_empty_of_size_eq_zero
  simp
 simp [Instr.buildSlice,run_underlying hu,sizeOf,typeInfo,hie,newRow,Instr.fill,e0]
theorem op_build0 {P:Program} {N:Nat} {o:Oper} {s:St} {t e id:Nat} {ti ei:TI} (ho:o.op = .buildSlice t 0 #[]) (ht:TiOk P t ti) (hk:ti.k = .slice e) (he:TiOk P e ei):OpLoc P N o s ⟨.row id ((s.σ id).ep+1) 0 0,[(id,⟨(s.σ id).ep+1,some (.row e ei.n [])⟩)],[]⟩:=by
 obtain ⟨inf,d,z,q1,_⟩:=he.h
 refine oploc_new [] fun s' W F μ a g1 g2 g3 hs=>?_
 refine ⟨.slice (some ⟨W.heap.size,0,none⟩) 0 0,[],e,0,?_,fun μ' σ' hst hσ hμ=>⟨.inr ⟨W.heap.size,0,#[],rfl,heap_alloc_new W _,qJ _,by decide,by simp,fun k cs hk=>by simp at hk,fun k cs j x hk=>by simp at hk⟩,.row id _ 0 0 _ (by rw [hσ];exact qJ _) rfl fun bd' m' l' hbd hL=>?_⟩⟩
 ·have hrun:=run_buildSlice0 (P:=P) W t e inf (ht.slice hk) q1
  simp only [execOp,ho,List.map_toArray,List.map_nil,Sem.run_bind,hrun,Result.andThen_ok,Sem.run_pure]
 ·rw [hσ] at hbd
  obtain rfl:Body.row e ei.n []=bd':=by simpa using hbd
  exact ⟨qP _,by rw [hμ];simp⟩
inductive RnN (id ep:Nat) (σ σ':Sto):AV->AV->Prop where
 | rn {x x':AV} (h:Rn σ σ' x x'):RnN id ep σ σ' x x'
 | nil (h:Nat.ble ep (σ' id).ep=true):RnN id ep σ σ' (.raw (.slice none 0 0)) (.row id ep 0 0)
theorem RnN.is {id ep:Nat} {σ σ':Sto} {x y:AV} (e:x=y) (h:y.pu1=true):RnN id ep σ σ' x y:=.rn (Rn.is e h)
theorem RnN.rel {W:World} {F:Nat->Prop} {μ:Mu} {id ep:Nat} {σ σ':Sto} (hμ:μ id=none) {x x':AV} {v:Value} (h:RnN id ep σ σ' x x') (hx:Rel W F μ σ x v):Rel W F μ σ' x' v:=by
 cases h with
 | rn h=>exact h.rel hx
 | nil h =>
  rw [hx.raw']
  exact .row _ _ _ _ _ (qV h) rfl fun bd m l _ _=>⟨by omega,by rw [hμ]⟩
def WkTN (id ep:Nat) (s:St) (σ':Sto):List (Nat × AV)->Prop
 | []=>True
 | p::T=>RnN id ep s.σ σ' (s.ts p.1) p.2/\WkTN id ep s σ' T
inductive WkB1N (i ep:Nat) (s:St) (σ':Sto) (id:Nat):SB->Prop where
 | old {sb:SB} (h:WkB1 s σ' id sb):WkB1N i ep s σ' id sb
 | box {t:TypeId} {cs cs':List AV} {e e':Nat} (h:s.σ id=⟨e,some (.box t cs)⟩) (hl:cs'.length=cs.length) (h1:cs'.all AV.one=true) (hc:∀(j:Nat) (x x':AV),cs[j]?=some x->cs'[j]?=some x'->RnN i ep s.σ σ' x x'):WkB1N i ep s σ' id ⟨e',some (.box t cs')⟩
def WkBN (i ep:Nat) (s:St) (σ':Sto):List (Nat × SB)->Prop
 | []=>True
 | p::b=>WkB1N i ep s σ' p.1 p.2/\WkBN i ep s σ' b
theorem wkTN_ok {i ep:Nat} {s:St} {σ':Sto}:∀{T:List (Nat × AV)},WkTN i ep s σ' T->∀t,RnN i ep s.σ σ' (s.ts t) (lkT T t)
 | [],_,_=>.rn (.any _)
 | p::T,h,t=>by
  show RnN i ep s.σ σ' (s.ts t) (cond (Nat.beq t p.1) p.2 (lkT T t))
  cases hb:Nat.beq t p.1
  ·exact wkTN_ok h.2 t
  ·rw [qY hb]
   exact h.1
inductive RnBN (i ep:Nat) (σ σ':Sto):Body->Body->Prop where
 | rn {b b':Body} (h:RnB σ σ' b b'):RnBN i ep σ σ' b b'
 | box {t:TypeId} {cs cs':List AV} (hl:cs'.length=cs.length) (h1:∀(j:Nat) (x:AV),cs'[j]?=some x->x.one=true) (h:∀(j:Nat) (x x':AV),cs[j]?=some x->cs'[j]?=some x'->RnN i ep σ σ' x x'):RnBN i ep σ σ' (.box t cs) (.box t cs')
theorem wkBN_ok {i ep:Nat} {s:St} {σ':Sto}:∀{b:List (Nat × SB)},WkBN i ep s σ' b->∀id bd',(lkB b id).body=some bd'->∃bd,(s.σ id).body=some bd/\RnBN i ep s.σ σ' bd bd'
 | [],_,id,bd',h=>by cases h
 | p::b,h,id,bd',hb=>by
  replace hb:(cond (Nat.beq id p.1) p.2 (lkB b id)).body=some bd':=hb
  cases hq:Nat.beq id p.1
  ·rw [hq] at hb
   exact wkBN_ok h.2 id bd' hb
  ·rw [hq] at hb
   replace hb:p.2.body=some bd':=hb
   rw [qY hq]
   have h1:=h.1
   obtain ⟨pid,psb⟩:=p
   cases h1 with
   | old h =>
    have:(lkB [(pid,psb)] pid).body=some bd':=by
     show (cond (Nat.beq pid pid) psb _).body=_
     rw [beq_t,cond_true];exact hb
    obtain ⟨bd,e1,e2⟩:=wkB_ok (s:=s) (σ':=σ') (l:=[(pid,psb)]) ⟨h,trivial⟩ pid bd' this
    exact ⟨bd,e1,.rn e2⟩
   | box h hl h1 hc =>
    obtain rfl:=qB hb
    exact ⟨_,by rw [h],.box hl (fun j x hj=>qW.1 h1 x (qQ hj)) hc⟩
theorem AW.nilBd {P : Program} {N : Nat} {Q : Exit -> St -> Prop} {s : St} {c : Code} (i ep : Nat) (bd0 : Body) (hbd : ∀ (W : World) (F : Nat -> Prop) (μ : Mu) (σ : Sto), BodyRel W F μ σ none bd0) (T : List (Nat × AV)) (b : List (Nat × SB)) (ht : WkTN i ep ⟨s.ts, up1 s.σ i ⟨(s.σ i).ep + 1, some bd0⟩⟩ (lkB b) T) (hB : WkBN i ep ⟨s.ts, up1 s.σ i ⟨(s.σ i).ep + 1, some bd0⟩⟩ (lkB b) b)
  (h:AW P N c Q (stL T b)):AW P N c Q s:=by
 intro W F μ a hr
 obtain ⟨hs,hi⟩:=inv_turn hr.inv i none ((s.σ i).ep+1) bd0 (Kp.refl _ W) (fun b c e=>by cases e) (.inl (Nat.lt_succ_self _)) (fun _=>hbd _ _ _ _)
 have hr1:RS N W F (upm μ i none) ⟨s.ts,up1 s.σ i ⟨(s.σ i).ep+1,some bd0⟩⟩ a:=⟨fun t=>(hr.ts t).stp hr.inv hs,hr.defers.go hs.q,hr.n,hi⟩
 have hμ:upm μ i none i=none:=if_pos rfl
 generalize upm μ i none=μ2 at hs hi hr1 hμ
 have hs:=hs.q
 generalize hs2:(⟨s.ts,up1 s.σ i ⟨(s.σ i).ep+1,some bd0⟩⟩:St)=s2 at ht hB hr1
 have hσ2:up1 s.σ i ⟨(s.σ i).ep+1,some bd0⟩=s2.σ:=by rw [<- hs2]
 rw [hσ2] at hs hi
 have own:∀x,Own μ2 (lkB b) x->Own μ2 s2.σ x:=fun x ⟨id,e,bd,c,h1,h2⟩=>by
  obtain ⟨bdx,h3,_⟩:=wkBN_ok hB id bd (by rw [h1])
  exact ⟨id,(s2.σ id).ep,bdx,c,by rw [<- h3],h2⟩
 have hs':Stq W F μ2 s2.σ W F μ2 (lkB b):=⟨Kp.refl _ _,fun _ h=>h,fun x hx=>.inl hx,fun x hx=>.inl (own x hx)⟩
 have hrs:RS N W F μ2 (stL T b) a:=by
  refine ⟨fun t=>(wkTN_ok ht t).rel hμ (hr1.ts t),hr1.defers.go hs',hr1.n,⟨fun id e bd hb=>?_,fun x hx=>hi.apart x (own x hx),fun id id' x c c' h1 h2=>?_,hi.old,hi.lay⟩⟩
  ·obtain ⟨bdx,h3,hR⟩:=wkBN_ok hB id bd (by show (lkB b id).body=_;rw [show lkB b id=_ from hb])
   have hBd:=hi.body id (s2.σ id).ep bdx (by rw [<- h3])
   cases hR with
   | rn hR =>
    cases hR with
    | row t m els=>exact hBd
    | rowT t m n els=>exact hBd.take n
    | obj o=>exact hBd
    | @nest t els els' hl h1 hrn =>
     rcases hBd with ⟨hn,rfl⟩ | ⟨b,cap,cur,hp,hh,q1,q2,q3,q4⟩
     ·exact .inl ⟨hn,uA.1 hl⟩
     ·refine .inr ⟨b,cap,cur,hp,hh,by omega,q2,q3,fun k x' hk=>⟨h1 k x' hk,?_⟩⟩
      obtain ⟨x,hx⟩:∃x,els[k]?=some x:=⟨_,qA (by rw [<- hl];exact (qC.1 hk).1)⟩
      obtain ⟨_,v,hv,hr'⟩:=q4 k x hx
      exact ⟨v,hv,(hrn k x x' hx hk).rel hr'⟩
    | ghost h h'=>exact ⟨hBd.1,by rw [show (stL T b).σ=lkB b from rfl,h'];exact qJ _,fun bd _=>hBd.2.2 _ h⟩
    | @box t cs cs' hl h1 hrn =>
     obtain ⟨bk,c,vs,hm,hw,hlv,hv⟩:=hBd
     refine ⟨bk,c,vs,hm,hw,by rw [hlv,hl],fun j x' v hj hvj=>⟨h1 j x' hj,?_⟩⟩
     obtain ⟨x,hxj⟩:∃x,cs[j]?=some x:=⟨_,qA (by rw [<- hl];exact (qC.1 hj).1)⟩
     exact (hrn j x x' hxj hj).rel (hv j x v hxj hvj).2
   | @box t cs cs' hl h1 hrn =>
    obtain ⟨bk,c,vs,hm,hw,hlv,hv⟩:=hBd
    refine ⟨bk,c,vs,hm,hw,by rw [hlv,hl],fun j x' v hj hvj=>⟨h1 j x' hj,?_⟩⟩
    obtain ⟨x,hxj⟩:∃x,cs[j]?=some x:=⟨_,qA (by rw [<- hl];exact (qC.1 hj).1)⟩
    exact (hrn j x x' hxj hj).rel hμ (hv j x v hxj hvj).2
  ·have g : ∀ id, (lkB b id).body.isSome = true -> (s2.σ id).body.isSome = true := fun id hb => by
    obtain ⟨bd',e⟩:=vV.1 hb
    obtain ⟨bd,e',_⟩:=wkBN_ok hB id bd' e
    rw [e'];rfl
   exact hi.inj id id' x c c' (g id h1) (g id' h2)
 refine Code.wpA_mono ?_ (h W _ μ2 a hrs)
 rintro e a' W' ⟨F',μ',s'',hq,hr',hs''⟩
 exact ⟨F',μ',s'',hq,hr',((hs.trans hs').d rfl).trans hs''⟩
theorem AW.nilRow {P:Program} {N:Nat} {Q:Exit->St->Prop} {s:St} {c:Code} (i ep t m:Nat) (T:List (Nat × AV)) (b:List (Nat × SB)) (ht:WkTN i ep ⟨s.ts,up1 s.σ i ⟨(s.σ i).ep+1,some (.row t m [])⟩⟩ (lkB b) T) (hB:WkBN i ep ⟨s.ts,up1 s.σ i ⟨(s.σ i).ep+1,some (.row t m [])⟩⟩ (lkB b) b)
  (h:AW P N c Q (stL T b)):AW P N c Q s:=AW.nilBd i ep (.row t m []) (fun _ _ _ _=>.inl ⟨rfl,rfl⟩) T b ht hB h
def RnL (σ σ':Sto):List AV->List AV->Prop
 | [],[]=>True
 | x::xs,y::ys=>Rn σ σ' x y/\RnL σ σ' xs ys
 | _,_=>False
theorem rnL_ok {σ σ':Sto}:∀{xs ys:List AV},RnL σ σ' xs ys->ys.length=xs.length/\∀(j:Nat) (x y:AV),xs[j]?=some x->ys[j]?=some y->Rn σ σ' x y
 | [],[],_=>⟨rfl,fun j x y h=>by simp at h⟩
 | x::xs,y::ys,h=>by
  obtain ⟨h1,h2⟩:=rnL_ok h.2
  refine ⟨by simp [h1],fun j a b ha hb=>?_⟩
  cases j with
  | zero =>
   obtain rfl:x=a:=by simpa using ha
   obtain rfl:y=b:=by simpa using hb
   exact h.1
  | succ j=>exact h2 j a b (by simpa using ha) (by simpa using hb)
 | [],_::_,h=>h.elim
 | _::_,[],h=>h.elim
theorem WkB1.boxL {s:St} {σ':Sto} {id:Nat} {t:TypeId} {cs cs':List AV} {ep ep':Nat} (h:s.σ id=⟨ep,some (.box t cs)⟩) (hc:RnL s.σ σ' cs cs') (h1:cs'.all AV.one=true):WkB1 s σ' id ⟨ep',some (.box t cs')⟩ :=
 .box h (rnL_ok hc).1 h1 (rnL_ok hc).2
def RnNL (i ep:Nat) (σ σ':Sto):List AV->List AV->Prop
 | [],[]=>True
 | x::xs,y::ys=>RnN i ep σ σ' x y/\RnNL i ep σ σ' xs ys
 | _,_=>False
theorem rnNL_ok {i ep:Nat} {σ σ':Sto}:∀{xs ys:List AV},RnNL i ep σ σ' xs ys->ys.length=xs.length/\∀(j:Nat) (x y:AV),xs[j]?=some x->ys[j]?=some y->RnN i ep σ σ' x y
 | [],[],_=>⟨rfl,fun j x y h=>by simp at h⟩
 | x::xs,y::ys,h=>by
  obtain ⟨h1,h2⟩:=rnNL_ok h.2
  refine ⟨by simp [h1],fun j a b ha hb=>?_⟩
  cases j with
  | zero =>
   obtain rfl:x=a:=by simpa using ha
   obtain rfl:y=b:=by simpa using hb
   exact h.1
  | succ j=>exact h2 j a b (by simpa using ha) (by simpa using hb)
 | [],_::_,h=>h.elim
 | _::_,[],h=>h.elim
theorem WkB1N.boxL {i e0:Nat} {s:St} {σ':Sto} {id:Nat} {t:TypeId} {cs cs':List AV} {ep ep':Nat} (h:s.σ id=⟨ep,some (.box t cs)⟩) (hc:RnNL i e0 s.σ σ' cs cs') (h1:cs'.all AV.one=true):WkB1N i e0 s σ' id ⟨ep',some (.box t cs')⟩ :=
 .box h (rnNL_ok hc).1 h1 (rnNL_ok hc).2
theorem Rm.ownIs {π:List (Nat × Nat)} {σ σ':Sto} {x:AV} {id id' ep ep' off:Nat} {bd bd':Body} (e:x = .own id ep off) (hm:lkP π id=some id') (h:σ id=⟨ep,some bd⟩) (h':σ' id'=⟨ep',some bd'⟩):Rm π σ σ' x (.own id' ep' off):=e ▸ .own (lkP_ok hm) h h'
theorem Rm.rowIs {π:List (Nat × Nat)} {σ σ':Sto} {x:AV} {id id' ep ep' off n t m:Nat} {els:List (List AV)} (e:x = .row id ep off n) (hm:lkP π id=some id') (h:σ id=⟨ep,some (.row t m els)⟩) (h':σ' id'=⟨ep',some (.row t m els)⟩):Rm π σ σ' x (.row id' ep' off n):=e ▸ .row (lkP_ok hm) h h'
theorem retM0 {P:Program} {fn:Func} {s:St} {b1:List (Nat × SB)} {e:Exit} (hr:fn.results = #[]) (he:e = .normal\/e = .ret) (hB:WkB s (lkB b1) b1):retM P fn (.tup []) b1 e s :=
 ⟨he,_,res_none hr s,.tup rfl (fun j x x' h=>by simp at h),hB⟩
theorem retM1 {P:Program} {fn:Func} {t:Tmp} {s:St} {b1:List (Nat × SB)} {r:AV} (hr:fn.results = #[.tmp t]) (hx:Rm (b1.map fun p=>(p.1,p.1)) s.σ (lkB b1) (s.ts t) r) (hB:WkB s (lkB b1) b1):retM P fn r b1 .ret s :=
 ⟨.inr rfl,_,res_tmp hr s,hx,hB⟩
theorem retM2 {P:Program} {fn:Func} {t u:Tmp} {s:St} {b1:List (Nat × SB)} {r q:AV} (hr:fn.results = #[.tmp t,.tmp u]) (hx:Rm (b1.map fun p=>(p.1,p.1)) s.σ (lkB b1) (s.ts t) r) (hy:Rm (b1.map fun p=>(p.1,p.1)) s.σ (lkB b1) (s.ts u) q) (hB:WkB s (lkB b1) b1):retM P fn (.tup [r,q]) b1 .ret s :=
 ⟨.inr rfl,_,res_tmp2 hr s,.tup rfl (pw_cons hx (pw_cons hy pw_nil)),hB⟩
theorem AW.cutT {P:Program} {N:Nat} {Q:Exit->St->Prop} {s:St} {x y:Code} {ι:Type} (T:ι->List (Nat × AV)) (B:ι->List (Nat × SB)) (J:ι->Prop) (h1:AW P N x (thenA (fun s'=>∃i,J i/\WkT s' (lkB (B i)) (T i)/\WkB s' (lkB (B i)) (B i)) Q) s)
  (h2:∀i,J i->AW P N y Q (stL (T i) (B i))):AW P N x (thenA (AW P N y Q) Q) s :=
 h1.mono fun e s' hq=>by
  cases e with
  | normal =>
   obtain ⟨i,hJ,ht,hB⟩:=hq
   exact AW.only _ _ ht hB (h2 i hJ)
  | _=>exact hq
theorem retQ0 {P:Program} {fn:Func} {s:St} {e:Exit} (hr:fn.results = #[]) (he:e = .normal\/e = .ret):retQ P fn (.tup []) e s :=
 ⟨he,_,[],res_none hr s,fzA_ok 6 rfl⟩
end Go.Proofs.YtdidjpohnopihaaGreat.Sm
end
end
section
namespace Go.Proofs.YtdidjpohnopihaaGreat.Sm
open Go.RowKit
def eqFs (T:TT) (f:Nat->AV->AV->Option Bool) (cs ds:List AV):List (Nat × Nat)->Option Bool
 | []=>some true
 | p::fs=>match tget T p.1 with
  | some fi=>match prtA fi p.2 cs,prtA fi p.2 ds with
   | some a,some b=>match f p.1 a b,eqFs T f cs ds fs with
    | some r,some q=>some (r && q)
    | _,_=>none
   | _,_=>none
  | none=>none
def eqRs (f:AV->AV->Option Bool) (ei:TI) (cs ds:List AV):Nat->Nat->Option Bool
 | 0,_=>some true
 | m+1,i=>match prtA ei (i*ei.n) cs,prtA ei (i*ei.n) ds with
  | some a,some b=>match f a b,eqRs f ei cs ds m (i+1) with
   | some r,some q=>some (r && q)
   | _,_=>none
  | _,_=>none
def eqA (T:TT):Nat->Nat->AV->AV->Option Bool
 | 0,_,_,_=>none
 | k+1,t,x,y=>match tget T t with
  | some ⟨.strct fs,_,_,_⟩=>match x,y with
   | .agg cs,.agg ds=>eqFs T (eqA T k) cs ds fs
   | _,_=>none
  | some ⟨.arr n e,_,_,_⟩=>match x,y with
   | .agg cs,.agg ds=>match tget T e with
    | some ei=>eqRs (eqA T k e) ei cs ds n 0
    | none=>none
   | _,_=>none
  | some ⟨.bool,_,_,_⟩=>match x,y with
   | .b p,.b q=>some (p == q)
   | _,_=>none
  | some ⟨.str,_,_,_⟩=>match x,y with
   | .s p,.s q=>some (decide (p=q))
   | _,_=>none
  | some ⟨.int _,_,_,_⟩=>match x,y with
   | .i k p,.i k' q=>if k=k' then some (decide (p=q)) else none
   | .u p,.u q=>some (decide (p=q))
   | .y p,.y q=>some (decide (p=q))
   | _,_=>none
  | _=>none
def eqP (P:Program) (T:TT):Nat->Nat->Bool
 | 0,_=>false
 | k+1,t=>match P.underlying t with
  | some (.struct fs) => !P.stoodInHeld t && fs.toList.all fun f => (decide (f.name ≠ "_")) && eqP P T k f.type
  | some (.array _ e)=>eqP P T k e
  | _=>true
section
variable {P : Program} {T : TT} {W : World} {F : Nat -> Prop} {μ : Mu} {σ : Sto}
theorem eqIn_str' {t:TypeId} (hu:P.underlying t=some .string) (d:Nat) (p q:List UInt8):(Op.equalIn (d+1) t (.string ⟨p.toArray⟩) (.string ⟨q.toArray⟩)).run P W = .ok (decide (p=q)) W:=by
 simp only [Op.equalIn,Sem.run_bind,run_underlying hu,Result.andThen_ok,Sem.run_pure]
 congr 1
 rw [beq_toListBytes,ByteArray.toList_eq,ByteArray.toList_eq,Bool.eq_iff_iff]
 simp
theorem eqIn_int' {t:TypeId} {k0:IntKind} (hu:P.underlying t=some (.int k0)) (d:Nat) (k:IntKind) (p q:Int):(Op.equalIn (d+1) t (.int k p) (.int k q)).run P W = .ok (decide (p=q)) W:=by
 simp only [Op.equalIn,Sem.run_bind,run_underlying hu,Result.andThen_ok,if_true,Sem.run_pure]
 congr 1
theorem dd64 (p q:UInt64):decide ((p.toNat:Int)=(q.toNat:Int))=decide (p=q):=decide_eq_decide.2 (by rw [u64_eq_iff])
theorem dd8 (p q:UInt8):decide ((p.toNat:Int)=(q.toNat:Int))=decide (p=q):=decide_eq_decide.2 (by rw [u8_eq_iff])
theorem eqFs_run {f:Nat->AV->AV->Option Bool} {d:Nat} {cs ds:List AV} {vs us:List Value} (hT:tabB P T=true) (hl:vs.length=cs.length) (h1:∀(j:Nat) (x:AV),cs[j]?=some x->x.one=true) (hp:∀(j:Nat) (x:AV) (v:Value),cs[j]?=some x->vs[j]?=some v->Rel W F μ σ x v)
  (hl':us.length=ds.length) (h1':∀(j:Nat) (x:AV),ds[j]?=some x->x.one=true) (hp':∀(j:Nat) (x:AV) (v:Value),ds[j]?=some x->us[j]?=some v->Rel W F μ σ x v) :
  ∀ (fs : List Field) (_ : ∀ g ∈ fs, g.name ≠ "_" /\ ∀ a b r, f g.type a b = some r -> ∀ v u, Rel W F μ σ a v -> Rel W F μ σ b u -> (Op.equalIn d g.type v u).run P W = .ok r W) (r : Bool), eqFs T f cs ds (fs.map fun g => (g.type, g.offset)) = some r -> (Op.eqFields d vs.toArray us.toArray fs).run P W = .ok r W
 | [],_,r,h=>by
  obtain rfl:=qB h
  rfl
 | g::fs,hg,r,h=>by
  simp only [vB,eqFs] at h
  split at h
  case h_2=>cases h
  rename_i fi hfi
  split at h
  case h_2=>cases h
  rename_i a b ha hb
  split at h
  case h_2=>cases h
  rename_i r1 r2 hr1 hr2
  obtain rfl:=qB h
  obtain ⟨v,hv,rv⟩:=part_ok (W:=W) (tab_ok hT hfi) hl h1 hp ha
  obtain ⟨u,hu,ru⟩:=part_ok (W:=W) (tab_ok hT hfi) hl' h1' hp' hb
  have he:=(hg g vH).2 a b r1 hr1 v u rv ru
  have ih:=eqFs_run (f:=f) (d:=d) hT hl h1 hp hl' h1' hp' fs (fun g' hg'=>hg g' (vG _ hg')) r2 hr2
  simp only [Op.eqFields,if_pos (hg g vH).1,Sem.run_bind,hv,hu,he,Result.andThen_ok]
  cases r1 with
  | true=>simpa using ih
  | false=>simp
theorem eqRs_run {f:AV->AV->Option Bool} {d e:Nat} {ei:TI} {cs ds:List AV} {vs us:List Value} (he:TiOk P e ei) (hl:vs.length=cs.length) (h1:∀(j:Nat) (x:AV),cs[j]?=some x->x.one=true) (hp:∀(j:Nat) (x:AV) (v:Value),cs[j]?=some x->vs[j]?=some v->Rel W F μ σ x v)
  (hl':us.length=ds.length) (h1':∀(j:Nat) (x:AV),ds[j]?=some x->x.one=true) (hp':∀(j:Nat) (x:AV) (v:Value),ds[j]?=some x->us[j]?=some v->Rel W F μ σ x v)
  (hf:∀a b r,f a b=some r->∀v u,Rel W F μ σ a v->Rel W F μ σ b u->(Op.equalIn d e v u).run P W = .ok r W) :
  ∀(m i:Nat) (r:Bool),eqRs f ei cs ds m i=some r->(forIn (List.range' i m) ((none,()):Option Bool × Unit) fun i _=>(do
    let a <- part e vs.toArray (i*ei.n)
    let b <- part e us.toArray (i*ei.n)
    let c <- Op.equalIn d e a b
    if (!c)=true then pure (ForInStep.done (some false,())) else pure (ForInStep.yield (none,())):Sem (ForInStep (Option Bool × Unit)))).run P W = .ok (cond r none (some false),()) W
 | 0,i,r,h=>by
  obtain rfl:=qB h
  simp
 | m+1,i,r,h=>by
  simp only [eqRs] at h
  split at h
  case h_2=>cases h
  rename_i a b ha hb
  split at h
  case h_2=>cases h
  rename_i r1 r2 hr1 hr2
  obtain rfl:=qB h
  obtain ⟨v,hv,rv⟩:=part_ok (W:=W) he hl h1 hp ha
  obtain ⟨u,hu,ru⟩:=part_ok (W:=W) he hl' h1' hp' hb
  have hq:=hf a b r1 hr1 v u rv ru
  have ih:=eqRs_run (f:=f) (d:=d) he hl h1 hp hl' h1' hp' hf m (i+1) r2 hr2
  simp only [List.range'_succ,List.forIn_cons,Sem.run_bind,hv,hu,hq,Result.andThen_ok]
  cases r1 with
  | true=>simpa using ih
  | false=>simp
theorem eqA_run (hT:tabB P T=true):∀(k:Nat) (d:Nat) (_:k<=d) (t:TypeId) (x y:AV) (r:Bool),eqP P T k t=true->eqA T k t x y=some r->∀v u,Rel W F μ σ x v->Rel W F μ σ y u->(Op.equalIn d t v u).run P W = .ok r W
 | 0,_,_,_,_,_,_,hp,_,_,_,_,_=>by cases hp
 | k+1,0,hd,_,_,_,_,_,_,_,_,_,_=>by omega
 | k+1,d+1,hd,t,x,y,r,hp,h,v,u,hv,hu=>by
  have ih:=fun t x y r=>eqA_run hT k d (by omega) t x y r
  simp only [eqA] at h
  split at h
  ·rename_i fs n sz z ht
   have hti:=tab_ok hT ht
   split at h
   case h_2=>cases h
   rename_i cs ds
   obtain ⟨fs',hU,hfs⟩:=hti.strct rfl
   obtain ⟨vs,rfl,hl,h1,hr⟩:=hv.agg'
   obtain ⟨us,rfl,hl',h1',hr'⟩:=hu.agg'
   have hF:P.underlying t=some (.struct (P.fieldsOf t)):=by rw [Program.fieldsOf,hU]
   have hf2:P.fieldsOf t=fs':=by rw [Program.fieldsOf,hU]
   simp only [eqP,hU,qN,Bool.not_eq_true',qW,vK] at hp
   rw [run_equalIn_struct W d t _ _ hF hp.1,hf2]
   refine eqFs_run hT hl h1 hr hl' h1' hr' fs'.toList (fun g hg=>⟨(hp.2 g hg).1,fun a b r he v u hv hu=>ih g.type a b r (hp.2 g hg).2 he v u hv hu⟩) r ?_
   rw [hfs];exact h
  ·rename_i n e n' sz z ht
   have hti:=tab_ok hT ht
   split at h
   case h_2=>cases h
   rename_i cs ds
   split at h
   case h_2=>cases h
   rename_i ei hei
   have hU:=hti.array rfl
   obtain ⟨vs,rfl,hl,h1,hr⟩:=hv.agg'
   obtain ⟨us,rfl,hl',h1',hr'⟩:=hu.agg'
   have hee:=tab_ok hT hei
   simp only [eqP,hU] at hp
   have:=eqRs_run (d:=d) hee hl h1 hr hl' h1' hr' (fun a b r he v u hv hu=>ih e a b r hp he v u hv hu) n 0 r h
   rw [Op.equalIn]
   simp only [Sem.run_bind,run_underlying hU,Result.andThen_ok,hee.size,Std.Legacy.Range.forIn_eq_forIn_range',Std.Legacy.Range.size]
   rw [show (n - 0+1 - 1) / 1=n by simp,this]
   cases r <;> rfl
  ·rename_i n sz z ht
   split at h
   case h_2=>cases h
   obtain rfl:=qB h
   rw [hv.b',hu.b']
   exact eqIn_bool ((tab_ok hT ht).bool rfl) W d _ _
  ·rename_i n sz z ht
   split at h
   case h_2=>cases h
   obtain rfl:=qB h
   rw [hv.s',hu.s']
   exact eqIn_str' ((tab_ok hT ht).str rfl) d _ _
  ·rename_i k0 n sz z ht
   have hU:=(tab_ok hT ht).int rfl
   split at h
   ·split at h
    case isFalse=>cases h
    rename_i he
    subst he
    obtain rfl:=qB h
    rw [hv.i',hu.i']
    exact eqIn_int' hU d _ _ _
   ·obtain rfl:=qB h
    rw [hv.u',hu.u']
    exact (eqIn_int' hU d _ _ _).trans (by rw [dd64])
   ·obtain rfl:=qB h
    rw [hv.y',hu.y']
    exact (eqIn_int' hU d _ _ _).trans (by rw [dd8])
   ·cases h
  ·cases h
end
theorem op_eqG {P:Program} {N:Nat} {T:TT} {o:Oper} {s:St} {t yt:TypeId} {x y:Operand} {cs ds:List AV} {b r:Bool} (ho:o.op = .binOp .eql t x y yt) (hT:tabB P T=true) (hP:eqP P T 6 t=true) (hg:P.eqGuardType P.depth t=false) (hx:s.ev x = .agg cs) (hy:s.ev y = .agg ds) (he:eqA T 6 t (.agg cs) (.agg ds)=some b) (hb:b=r):OpLoc P N o s ⟨.b r,[],[]⟩:=by
 subst hb
 refine oploc_val [] _ fun s' W F μ a h1 h2 hr=>⟨.bool b,?_,.pure (.b b)⟩
 have ex:=hr.ev x
 have ey:=hr.ev y
 rw [h1 x (by rw [ho];simp [Op.operands]),hx] at ex
 rw [h1 y (by rw [ho];simp [Op.operands]),hy] at ey
 have hq:=eqA_run (W:=W) hT 6 10000 (by omega) t _ _ b hP he _ _ ex ey
 obtain ⟨vs,ev,_⟩:=ex.agg'
 obtain ⟨us,eu,_⟩:=ey.agg'
 rw [ev,eu] at hq
 simp only [execOp,ho,ev,eu,Sem.run_bind,run_eqGuard_agg W _ _ _ _ _ _ hg,Result.andThen_ok,run_eql_struct,hq,Sem.run_pure]
theorem op_neG {P:Program} {N:Nat} {T:TT} {o:Oper} {s:St} {t yt:TypeId} {x y:Operand} {cs ds:List AV} {b r:Bool} (ho:o.op = .binOp .neq t x y yt) (hT:tabB P T=true) (hP:eqP P T 6 t=true) (hg:P.eqGuardType P.depth t=false) (hx:s.ev x = .agg cs) (hy:s.ev y = .agg ds) (he:eqA T 6 t (.agg cs) (.agg ds)=some b) (hb:(!b)=r):OpLoc P N o s ⟨.b r,[],[]⟩:=by
 subst hb
 refine oploc_val [] _ fun s' W F μ a h1 h2 hr=>⟨.bool (!b),?_,.pure (.b _)⟩
 have ex:=hr.ev x
 have ey:=hr.ev y
 rw [h1 x (by rw [ho];simp [Op.operands]),hx] at ex
 rw [h1 y (by rw [ho];simp [Op.operands]),hy] at ey
 have hq:=eqA_run (W:=W) hT 6 10000 (by omega) t _ _ b hP he _ _ ex ey
 obtain ⟨vs,ev,_⟩:=ex.agg'
 obtain ⟨us,eu,_⟩:=ey.agg'
 rw [ev,eu] at hq
 simp only [execOp,ho,ev,eu,Sem.run_bind,run_eqGuard_agg W _ _ _ _ _ _ hg,Result.andThen_ok,run_neq_struct,hq,Sem.run_pure]
def resA (T:TT) (s:St):ResultVar->Option AV
 | .tmp t=>some (s.ts t)
 | .cell a ty=>match tget T ty,caA s.σ (s.ts a) with
  | some ti,some (cs,_)=>ldA ti cs
  | _,_=>none
def resFn (tmps:Array Value):ResultVar->Sem Value
 | .tmp t=>pure (tmps.getD t undef)
 | .cell p t=>do loadVar t (<- asAddr (tmps.getD p undef))
theorem results_eq (fn:Func) (tmps:Array Value):results fn tmps=(do
  let vs <- fn.results.mapM (resFn tmps)
  pure (if h:vs.size=1 then vs[0] else .tuple vs)):=by
 have h:(fun (r:ResultVar)=>(match r with | .tmp t=>pure (tmps.getD t undef) | .cell p t=>do loadVar t (<- asAddr (tmps.getD p undef)):Sem Value))=resFn tmps:=by
  funext r
  cases r <;> rfl
 rw [<- h]
 rfl
def resV:List AV->AV
 | [x]=>x
 | xs=>.tup xs
theorem resL_run {P:Program} {T:TT} (hT:tabB P T=true) {N:Nat} {s:St} {W:World} {F:Nat->Prop} {μ:Mu} {a:Act} (hr:RS N W F μ s a):∀(rs:List ResultVar) (xs:List AV),optL (rs.map (resA T s))=some xs->∃vs:List Value,(rs.mapM (resFn a.tmps)).run P W = .ok vs W/\vs.length=xs.length/\∀(j:Nat) (x:AV) (v:Value),xs[j]?=some x->vs[j]?=some v->Rel W F μ s.σ x v
 | [],xs,h=>by
  obtain rfl:=qB h
  exact ⟨[],rfl,rfl,pw_nil⟩
 | r::rs,xs,h=>by
  simp only [vB] at h
  cases hq:resA T s r with
  | none=>rw [hq] at h;cases h
  | some x =>
   rw [hq] at h
   simp only [optL] at h
   split at h
   case h_2=>cases h
   rename_i xs' hxs
   obtain rfl:=qB h
   obtain ⟨vs,g1,g2,g3⟩:=resL_run hT hr rs xs' hxs
   have hone:∃v,(resFn a.tmps r).run P W = .ok v W/\Rel W F μ s.σ x v:=by
    cases r with
    | tmp t =>
     obtain rfl:=qB hq
     exact ⟨_,rfl,hr.ts t⟩
    | cell p ty =>
     simp only [resA] at hq
     split at hq
     case h_2=>cases hq
     rename_i ti cs l ht hca
     obtain ⟨A,hA,v,hrun,hv⟩:=loadVar_rel hr.inv (tab_ok hT ht) (hr.ts p) (caA_ok hca) hq
     refine ⟨v,?_,hv⟩
     simp only [resFn,Sem.run_bind,hA]
     simpa [asAddr] using hrun
   obtain ⟨v,hv1,hv2⟩:=hone
   refine ⟨v::vs,?_,by simp [g2],pw_cons hv2 g3⟩
   rw [List.mapM_cons,Sem.run_bind,hv1,Result.andThen_ok,Sem.run_bind,g1,Result.andThen_ok]
   rfl
theorem resL_ok {P:Program} {T:TT} (hT:tabB P T=true) {fn:Func} {s:St} {rs:List ResultVar} {xs:List AV} (hrs:fn.results.toList=rs) (h:optL (rs.map (resA T s))=some xs):ResOk P fn s (resV xs):=by
 subst hrs
 intro W F μ a hr
 obtain ⟨vs,g1,g2,g3⟩:=resL_run hT hr _ _ h
 have hm:(fn.results.mapM (resFn a.tmps)).run P W = .ok vs.toArray W:=by
  rw [Array.mapM_eq_mapM_toList]
  rw [map_eq_pure_bind,Sem.run_bind,g1]
  rfl
 rw [results_eq,Sem.run_bind,hm,Result.andThen_ok]
 match vs,xs,g2,g3 with
 | [v],[x],_,g3=>exact ⟨v,rfl,g3 0 x v rfl rfl⟩
 | [],[],_,g3=>exact ⟨_,rfl,.tup [] [] rfl g3⟩
 | v::u::vs,x::y::xs,g2,g3 =>
  refine ⟨.tuple (v::u::vs).toArray,?_,.tup (x::y::xs) (v::u::vs) g2 g3⟩
  simp
theorem retQA {P:Program} {T:TT} (hT:tabB P T=true) {fn:Func} {s:St} {rs:List ResultVar} {xs:List AV} {y r:AV} {l:List Nat} (hrs:fn.results.toList=rs) (h:optL (rs.map (resA T s))=some xs) (hz:fzA s.σ 6 (resV xs)=some (y,l)) (hy:y=r):retQ P fn r .ret s :=
 ⟨.inr rfl,_,l,resL_ok hT hrs h,by rw [<- hy];exact fzA_ok 6 hz⟩
theorem retMA {P:Program} {T:TT} (hT:tabB P T=true) {fn:Func} {s:St} {b1:List (Nat × SB)} {rs:List ResultVar} {xs:List AV} {r:AV} (hrs:fn.results.toList=rs) (h:optL (rs.map (resA T s))=some xs) (hx:Rm (b1.map fun p=>(p.1,p.1)) s.σ (lkB b1) (resV xs) r) (hB:WkB s (lkB b1) b1):retM P fn r b1 .ret s :=
 ⟨.inr rfl,_,resL_ok hT hrs h,hx,hB⟩
theorem op_nilRow (id:Nat) (t:TypeId) (m:Nat) {P:Program} {N:Nat} {o:Oper} {s:St} (ho:o.op = .assign (.const (.slice none 0 0))):OpLoc P N o s ⟨.row id ((s.σ id).ep+1) 0 0,[(id,⟨(s.σ id).ep+1,some (.row t m [])⟩)],[]⟩:=by
 intro s' h1 h2 h3 W F μ a hr K Q hK
 have hid:s'.σ id=s.σ id:=h3 (id,⟨(s.σ id).ep+1,some (.row t m [])⟩) (by simp)
 have hrun:(execOp a.eval o).run P W = .ok (.value (.slice none 0 0)) W:=by
  simp only [execOp,ho,Sem.run_pure]
  rfl
 obtain ⟨hs,hi⟩:=inv_turn hr.inv id none ((s.σ id).ep+1) (.row t m []) (Kp.refl _ W) (fun b c e=>by cases e) (.inl (by rw [hid];omega)) (fun _=>.inl ⟨rfl,rfl⟩)
 have hσ:up1 s'.σ id ⟨(s.σ id).ep+1,some (.row t m [])⟩ id=⟨(s.σ id).ep+1,some (.row t m [])⟩:=by rw [up1_eq,if_pos rfl]
 have hμ:upm μ id none id=none:=if_pos rfl
 have hv:Rel W F (upm μ id none) (up1 s'.σ id ⟨(s.σ id).ep+1,some (.row t m [])⟩) (.row id ((s.σ id).ep+1) 0 0) (.slice none 0 0) :=
  .row _ _ _ _ _ (by rw [hσ];exact qJ _) rfl fun bd' m' l' h _=>⟨by omega,by rw [hμ]⟩
 unfold Oper.wp
 rw [hrun]
 exact hK W F _ _ (hr.put hs hi hv) hs
theorem op_app1 {α:Type} (cF:α->List AV) (l:List α) (x:α) (hL:l.length<=100000000) {P:Program} {N:Nat} {o:Oper} {s:St} {c:Call} {xo yo:Operand} {t e id id2 ep2:Nat} {ti ei:TI} (ho:o.op = .call c) (hc:c.callee = .builtin .append) (ha:c.args = #[xo,yo]) (hat:c.argTypes = #[t,t]) (ht:TiOk P t ti) (hk:ti.k = .slice e) (he:TiOk P e ei) (h0:(ei.n == 0)=false) (hsz:Nat.ble ei.sz 1000=true)
  (hx:∃ep,s.ev xo = .row id ep 0 (l.map cF).length/\s.σ id=⟨ep,some (.row e ei.n (l.map cF))⟩) (hy:s.ev yo = .row id2 ep2 0 1) (hid2:s.σ id2=⟨ep2,some (.row e ei.n [cF x])⟩) :
  OpLoc P N o s ⟨.row id ((s.σ id).ep+1) 0 ((l++[x]).map cF).length,[(id,⟨(s.σ id).ep+1,some (.row e ei.n ((l++[x]).map cF))⟩)],[id2]⟩:=by
 have h2:=qV hsz
 refine op_appendR (els:=l.map cF) (els2:=[cF x]) ho hc ha hat ht hk he h0 (.inl hx) hy hid2 ?_ ?_ (by simp) rfl
 ·rw [qH]
  show (l.length+1)*ei.sz<=_
  exact vJ (Nat.mul_le_mul (show l.length+1<=100000001 by omega) h2) (by decide)
 ·rw [qH]
  show l.length+1<=_
  omega
theorem op_appL {α:Type} (cF:α->List AV) (l l2:List α) (hL:l.length+l2.length<=100000000) {P:Program} {N:Nat} {o:Oper} {s:St} {c:Call} {xo yo:Operand} {t e id:Nat} {ti ei:TI} (hcf:∀x,(cF x).length=ei.n) (ho:o.op = .call c) (hc:c.callee = .builtin .append) (ha:c.args = #[xo,yo]) (hat:c.argTypes = #[t,t]) (ht:TiOk P t ti) (hk:ti.k = .slice e) (he:TiOk P e ei) (h0:(ei.n == 0)=false) (hsz:Nat.ble ei.sz 1000=true)
  (hx:∃ep,s.ev xo = .row id ep 0 (l.map cF).length/\s.σ id=⟨ep,some (.row e ei.n (l.map cF))⟩) (hy:s.ev yo = .sl (l2.map cF)) :
  OpLoc P N o s ⟨.row id ((s.σ id).ep+1) 0 ((l++l2).map cF).length,[(id,⟨(s.σ id).ep+1,some (.row e ei.n ((l++l2).map cF))⟩)],[]⟩:=by
 have h2:=qV hsz
 refine op_appendS (els:=l.map cF) (els2:=l2.map cF) ho hc ha hat ht hk he h0 (.inl hx) hy (fun cs h=>by
  obtain ⟨x,_,rfl⟩:=vF.1 h
  exact hcf x) ?_ ?_ (by simp) rfl
 ·rw [qH,qH]
  exact vJ (Nat.mul_le_mul hL h2) (by decide)
 ·rw [qH,qH]
  omega
theorem rowAll {X Y:List (List AV)} (h:X=Y):AV.sl (List.take X.length (List.drop 0 X)) = .sl Y:=by
 rw [uR,uL,h]
section
variable {P : Program} {N : Nat} {o : Oper} {s : St}
theorem op_makeSlice (n:Nat) {t e id:Nat} {ti ei:TI} (ho:o.op = .makeSlice t (.const (.int .i64 (n:Int))) (.const (.int .i64 (n:Int)))) (ht:TiOk P t ti) (hk:ti.k = .slice e) (he:TiOk P e ei) (hm:0<ei.n) (hs:ei.sz*n<=100000000) (hn:n<=100000000) :
  OpLoc P N o s ⟨.row id ((s.σ id).ep+1) 0 n,[(id,⟨(s.σ id).ep+1,some (.row e ei.n (List.replicate n ei.z))⟩)],[]⟩:=by
 obtain ⟨inf,d,z,q1,q2,q3,q4,q5,q6,q7⟩:=he.h
 refine oploc_new [] fun s' W F μ a g1 g2 hid hs'=>?_
 have hzl:=he.zl
 have hb:(inf.bytes:Int)*(n:Int)<=281474976710656:=by
  have:((ei.sz*n:Nat):Int)<=100000000:=by omega
  rw [Int.natCast_mul] at this
  rw [q4]
  omega
 have hrun:=run_make (P:=P) W t e inf z (ht.slice hk) q1 q6 .i64 .i64 (n:Int) (n:Int) (by omega) (by omega) hb (by omega)
 rw [vU,q3] at hrun
 have hzs:=fun W'=>zsOk_rel (W:=W') (F:=F) q7
 have hsz:z.cells.size=ei.n:=by rw [<- qL,(hzs W).1,hzl]
 have hmc:(madeCells z.cells (n*ei.n)).size=n*ei.n:=size_madeCells _ _
 have hget:∀k j,k<n->j<ei.n->(madeCells z.cells (n*ei.n))[k*ei.n+j]?=z.cells.toList[j]?:=fun k j hk hj=>by
  have hlt:k*ei.n+j<n*ei.n:=by
   have:(k+1)*ei.n<=n*ei.n:=Nat.mul_le_mul_right _ hk
   rw [Nat.add_mul,Nat.one_mul] at this
   omega
  have hmod:(k*ei.n+j) % z.cells.size=j:=by rw [hsz,Nat.mul_comm,Nat.mul_add_mod,Nat.mod_eq_of_lt hj]
  simp only [madeCells,Array.getElem?_map,Array.getElem?_range,hlt,if_true,Option.map_some,hmod]
  rw [vM,getElem!_pos _ _ (by omega),uE (by omega)]
 refine ⟨.slice (some ⟨W.heap.size,0,none⟩) n n,(madeCells z.cells (n*ei.n)).toList,e,n,?_,fun μ' σ' hst hσ hμ=>⟨.inr ⟨W.heap.size,n,madeCells z.cells (n*ei.n),rfl,?_,by simp,?_,hmc,?_,?_⟩,.row id _ 0 n _ (by rw [hσ];exact qJ _) rfl fun bd' m' l' hbd hL=>?_⟩⟩
 ·simp only [execOp,ho,Act.eval,Sem.run_bind,hrun,Result.andThen_ok,Sem.run_pure,Array.toArray_toList]
 ·rw [Array.toArray_toList];exact heap_alloc_new W _
 ·show n<=maxLen
  exact vJ hn (by decide)
 ·intro k cs hk
  rw [uX] at hk
  split at hk
  ·rw [<- qB hk,hzl]
  ·cases hk
 ·intro k cs j x hk hx
  rw [uX] at hk
  split at hk
  ·rename_i hkn
   rw [<- qB hk] at hx
   have hj:j<ei.n:=by rw [<- hzl];exact (qC.1 hx).1
   obtain ⟨v,hv⟩:∃v,z.cells.toList[j]?=some v:=⟨_,qA (by rw [qL,hsz];exact hj)⟩
   have:=(hzs (W.alloc (.cells (madeCells z.cells (n*ei.n)).toList.toArray e))).2 j x v hx hv
   exact ⟨this.2,v,by rw [hget k j hkn hj,hv],this.1⟩
  ·cases hk
 ·rw [hσ] at hbd
  obtain rfl:Body.row e ei.n (List.replicate n ei.z)=bd':=by simpa using hbd
  obtain ⟨rfl,rfl⟩:ei.n=m'/\(List.replicate n ei.z).length=l':=by simpa only [Body.rowL,qU,qZ] using hL
  exact ⟨by simp,by rw [hμ];simp⟩
def bA (f:Nat->Bool):List AV:=(List.range 128).map fun i=>.b (f i)
theorem bA_len (f:Nat->Bool):(bA f).length=128:=by simp [bA]
theorem bA_get (f:Nat->Bool) (k:Nat) (hk:k<128):(bA f)[k]?=some (.b (f k)):=by
 rw [bA,qE,List.getElem?_range hk];rfl
theorem bA_congr {f g:Nat->Bool} (h:∀i<128,f i=g i):bA f=bA g:=by
 rw [bA,bA]
 exact List.map_congr_left fun i hi=>by rw [h i (uV.1 hi)]
theorem bA_one (f:Nat->Bool):(bA f).all AV.one=true:=by
 rw [qW]
 intro x hx
 obtain ⟨i,_,rfl⟩:=vF.1 hx
 rfl
def upB (f:Nat->Bool) (k:Nat) (v:Bool):Nat->Bool:=fun i=>if i=k then v else f i
theorem ovw_set:∀(cs:List AV) (k:Nat) (x:AV),ovw cs k [x]=cs.set k x
 | [],k,x=>rfl
 | c::cs,0,x=>by
  show x::ovw cs 0 []=_
  cases cs <;> rfl
 | c::cs,k+1,x=>by
  show c::ovw cs k [x]=_
  rw [ovw_set cs k x];rfl
theorem bA_set (f:Nat->Bool) (k:Nat) (v:Bool) (hk:k<128):ovw (bA f) k [.b v]=bA (upB f k v):=by
 rw [ovw_set]
 apply List.ext_getElem?
 intro i
 rw [List.getElem?_set]
 by_cases e:k=i
 ·subst e
  rw [if_pos rfl,if_pos (by rw [bA_len];exact hk),bA_get _ _ hk,upB,if_pos rfl]
 ·rw [if_neg e]
  by_cases h:i<128
  ·rw [bA_get _ _ h,bA_get _ _ h,upB,if_neg (fun h=>e h.symm)]
  ·rw [vS (by rw [bA_len];omega),vS (by rw [bA_len];omega)]
theorem op_addrB (k:Nat) {t id ep:Nat} {ti ei:TI} {e:Nat} {x i:Operand} {ty:Nat} {f:Nat->Bool} {kd:IntKind} (hk:k<128) (ho:o.op = .indexAddr t x i) (ht:TiOk P t ti) (hti:ti.k = .arr 128 e) (he:TiOk P e ei) (hn:ei.n=1) (hi:s.ev i = .i kd (k:Int)) (hx:s.ev x = .own id ep 0) (hid:s.σ id=⟨ep,some (.box ty (bA f))⟩) :
  OpLoc P N o s ⟨.own id ep k,[],[id]⟩:=by
 have h:=op_indexA (N:=N) (r:=.own id ep k) ho ht hti he hi hk (by rw [hx];exact .own hid) (by rw [hx,hn];simp [fldA])
 exact h
theorem op_loadB (k:Nat) {t id ep:Nat} {ti:TI} {p:Operand} {ty:Nat} {f:Nat->Bool} (hk:k<128) (ho:o.op = .load t p) (ht:TiOk P t ti) (hti:ti.k.ag=false) (hp:s.ev p = .own id ep k) (hid:s.σ id=⟨ep,some (.box ty (bA f))⟩) :
  OpLoc P N o s ⟨.b (f k),[],[id]⟩:=by
 refine op_load ho ht (by rw [hp];exact .own hid) ?_
 rw [ldA,hti,cond_false,List.head?_drop]
 exact bA_get f k hk
theorem op_storeB (k:Nat) {t id ep:Nat} {ti:TI} {p x:Operand} {ty:Nat} {f:Nat->Bool} {v:Bool} (hk:k<128) (ho:o.op = .store t p x) (ht:TiOk P t ti) (hn:ti.n=1) (hp:s.ev p = .own id ep k) (hid:s.σ id=⟨ep,some (.box ty (bA f))⟩) (hx:s.ev x = .b v) :
  OpLoc P N o s ⟨.tup [],[(id,⟨ep,some (.box ty (bA (upB f k v)))⟩)],[]⟩:=by
 rw [<- bA_set f k v hk]
 exact op_store ho ht hp hid (by rw [hx];rfl) rfl (by rw [hn];rfl) (by rw [hn,bA_len];omega)
theorem op_loadBs {t id ep:Nat} {ti:TI} {p:Operand} {ty:Nat} {f:Nat->Bool} (ho:o.op = .load t p) (ht:TiOk P t ti) (hti:ti.k.ag=true) (hn:ti.n=128) (hp:s.ev p = .own id ep 0) (hid:s.σ id=⟨ep,some (.box ty (bA f))⟩) :
  OpLoc P N o s ⟨.agg (bA f),[],[id]⟩:=by
 refine op_load ho ht (by rw [hp];exact .own hid) ?_
 rw [ldA,hti,cond_true,hn,uR,bA_len]
 show some (AV.agg ((bA f).take 128))=_
 rw [vY (by rw [bA_len];exact qJ _)]
theorem op_storeBs {t id ep:Nat} {ti:TI} {p x:Operand} {ty:Nat} {f:Nat->Bool} {cs:List AV} (hl:cs.length=128) (ho:o.op = .store t p x) (ht:TiOk P t ti) (hn:ti.n=128) (hp:s.ev p = .own id ep 0) (hid:s.σ id=⟨ep,some (.box ty cs)⟩) (hx:s.ev x = .agg (bA f)) :
  OpLoc P N o s ⟨.tup [],[(id,⟨ep,some (.box ty (bA f))⟩)],[]⟩:=by
 have e:ovw cs 0 (bA f)=bA f:=by
  apply List.ext_getElem?
  intro i
  rw [ovw_get _ _ _ _ (by rw [bA_len];omega),bA_len]
  by_cases h:i<128
  ·rw [if_pos (by omega),Nat.sub_zero]
  ·rw [if_neg (by omega),vS (by omega),vS (by rw [bA_len];omega)]
 have h:=op_store (N:=N) ho ht hp hid (by rw [hx];rfl) (bA_one f) (by rw [hn,bA_len]) (by rw [hn];omega)
 rw [e] at h
 exact h
theorem op_allocB {t id:Nat} {ti:TI} (ho:o.op = .alloc t) (ht:TiOk P t ti) (hz:ti.z=bA fun _=>false):OpLoc P N o s ⟨.own id ((s.σ id).ep+1) 0,[(id,⟨(s.σ id).ep+1,some (.box t (bA fun _=>false))⟩)],[]⟩:=by
 rw [<- hz]
 exact op_alloc ho ht
theorem op_buildB {t e:Nat} {ti ei:TI} (ho:o.op = .build t #[]) (ht:TiOk P t ti) (hk:ti.k = .arr 128 e) (he:TiOk P e ei) (hz:ti.z=bA fun _=>false):OpLoc P N o s ⟨.agg (bA fun _=>false),[],[]⟩:=by
 refine oploc_val [] _ fun s' W F μ a g1 g2 hs=>?_
 obtain ⟨z,hz1,hz2⟩:=ht.zero W
 have hz3:=zsOk_rel (W:=W) (F:=F) hz2
 rw [hz] at hz3
 refine ⟨.agg z.cells.toList.toArray,?_,.agg _ z.cells.toList hz3.1 (fun j x hx=>?_) (fun j x v hx hv=>.pure (hz3.2 j x v hx hv).1)⟩
 ·simp only [execOp,ho,Instr.build,List.map_toArray,List.map_nil,Sem.run_bind,hz1,Result.andThen_ok,run_underlying (ht.array hk),he.size,Instr.fill,Sem.run_pure,Array.toArray_toList]
 ·obtain ⟨v,hv⟩:∃v,z.cells.toList[j]?=some v:=⟨_,qA (by rw [hz3.1];exact (qC.1 hx).1)⟩
  exact (hz3.2 j x v hx hv).2
theorem fzL_bA {σ:Sto} {k:Nat} (f:Nat->Bool) (l:List Nat):fzL σ (k+1) (l.map fun i=>.b (f i))=some (l.map fun i=>.b (f i),[]):=by
 induction l with
 | nil=>rfl
 | cons i l ih =>
  have ih':(l.map fun i=>AV.b (f i)).foldr (fun c acc=>match fzA σ (k+1) c,acc with | some (y,l),some (ys,l')=>some (y::ys,l++l') | _,_=>none) (some ([],[]))=some (l.map fun i=>.b (f i),[]):=ih
  show (match fzA σ (k+1) (.b (f i)),(l.map fun i=>AV.b (f i)).foldr (fun c acc=>match fzA σ (k+1) c,acc with | some (y,l),some (ys,l')=>some (y::ys,l++l') | _,_=>none) (some ([],[])) with | some (y,l),some (ys,l')=>some (y::ys,l++l') | _,_=>none)=_
  rw [ih']
  rfl
theorem fz_aggL {σ:Sto} {k:Nat} {cs cs':List AV} {l:List Nat} (h:fzL σ k cs=some (cs',l)):fzA σ (k+1) (.agg cs)=some (.agg cs',l):=by
 show (match fzL σ k cs with | some (cs',l)=>some (AV.agg cs',l) | none=>none)=_
 rw [h]
theorem fz_bA {σ:Sto} {k:Nat} (f:Nat->Bool):fzA σ (k+2) (.agg (bA f))=some (.agg (bA f),[]):=fz_aggL (fzL_bA f _)
theorem flat_bA (f:Nat->Bool):(AV.agg (bA f)).flat=true:=by
 show (bA f).all AV.flat1=true
 rw [qW]
 intro x hx
 obtain ⟨i,_,rfl⟩:=vF.1 hx
 rfl
theorem retBs {fn:Func} {s:St} {f:Nat->Bool} {a ty id ep t:Nat} {ti:TI} {r:AV} (h:fn.results = #[.cell a ty]) (ht:TiOk P ty ti) (hag:ti.k.ag=true) (hn:ti.n=128) (ha:s.ts a = .own id ep 0) (hid:s.σ id=⟨ep,some (.box t (bA f))⟩) (hr:.agg (bA f)=r):retQ P fn r .ret s:=by
  refine ⟨.inr rfl,.agg (bA f),[],?_,by rw [<- hr];exact fzA_ok 2 (fz_bA f)⟩
  intro W F μ ac hrs
  obtain ⟨A,hA,v,hrun,hv⟩:=loadVar_rel (r:=.agg (bA f)) hrs.inv ht (hrs.ts a) (by rw [ha];exact .own hid) (by
    rw [ldA,hag,cond_true,hn,uR,bA_len]
    show some (AV.agg ((bA f).take 128))=_
    rw [vY (by rw [bA_len];exact qJ _)])
  refine ⟨v,?_,hv⟩
  have e : results fn ac.tmps = (do
      let v <- resFn ac.tmps (.cell a ty)
      pure v):=by
    rw [results_eq,h]
    simp
  rw [e]
  simp only [resFn,Sem.run_bind,hA]
  simpa [asAddr] using hrun
def yA (g:Nat->UInt8):List (List AV):=(List.range 128).map fun i=>[.y (g i)]
theorem yA_len (g:Nat->UInt8):(yA g).length=128:=by simp [yA]
theorem yA_get (g:Nat->UInt8) (k:Nat) (hk:k<128):(yA g)[k]?=some [.y (g k)]:=by
 rw [yA,qE,List.getElem?_range hk];rfl
def upY (g:Nat->UInt8) (k:Nat) (v:UInt8):Nat->UInt8:=fun i=>if i=k then v else g i
theorem yA_set (g:Nat->UInt8) (k:Nat) (v:UInt8) (hk:k<128):(yA g).set k [.y v]=yA (upY g k v):=by
 apply List.ext_getElem?
 intro i
 rw [List.getElem?_set]
 by_cases e:k=i
 ·subst e
  rw [if_pos rfl,if_pos (by rw [yA_len];exact hk),yA_get _ _ hk,upY,if_pos rfl]
 ·rw [if_neg e]
  by_cases h:i<128
  ·rw [yA_get _ _ h,yA_get _ _ h,upY,if_neg (fun h=>e h.symm)]
  ·rw [vS (by rw [yA_len];omega),vS (by rw [yA_len];omega)]
theorem op_makeY {t e id:Nat} {ti ei:TI} (ho:o.op = .makeSlice t (.const (.int .i64 128)) (.const (.int .i64 128))) (ht:TiOk P t ti) (hk:ti.k = .slice e) (he:TiOk P e ei) (hz:ei.z=[.y 0]) (hn:ei.n=1) (hs:ei.sz=1) :
  OpLoc P N o s ⟨.row id ((s.σ id).ep+1) 0 128,[(id,⟨(s.σ id).ep+1,some (.row e 1 (yA fun _=>0))⟩)],[]⟩:=by
 have h:=op_makeSlice (N:=N) (s:=s) (id:=id) 128 ho ht hk he (by rw [hn];decide) (by rw [hs];decide) (by decide)
 have e0:List.replicate 128 ei.z=yA fun _=>0:=by rw [hz];rfl
 rw [e0,hn] at h
 exact h
theorem op_addrY (k:Nat) {t e id ep ty:Nat} {ti ei:TI} {x i:Operand} {kd:IntKind} {g:Nat->UInt8} (hk:k<128) (ho:o.op = .indexAddr t x i) (ht:TiOk P t ti) (hti:ti.k = .slice e) (he:TiOk P e ei) (hn:ei.n=1) (hi:s.ev i = .i kd (k:Int)) (hx:s.ev x = .row id ep 0 128) (hid:s.σ id=⟨ep,some (.row ty 1 (yA g))⟩) :
  OpLoc P N o s ⟨.el id ep k 0,[],[id]⟩:=by
 have h:=op_indexR (N:=N) ho ht hti he hx hid hi hk hn.symm
 rw [vL] at h
 exact h
theorem op_storeY (k:Nat) {t id ep ty:Nat} {ti:TI} {p x:Operand} {g:Nat->UInt8} {v:UInt8} (hk:k<128) (ho:o.op = .store t p x) (ht:TiOk P t ti) (hn:ti.n=1) (hp:s.ev p = .el id ep k 0) (hid:s.σ id=⟨ep,some (.row ty 1 (yA g))⟩) (hx:s.ev x = .y v) :
  OpLoc P N o s ⟨.tup [],[(id,⟨ep,some (.row ty 1 (yA (upY g k v)))⟩)],[]⟩:=by
 rw [<- yA_set g k v hk]
 exact op_storeE ho ht hp hid (yA_get g k hk) (congrArg AV.cells hx) rfl rfl (by rw [hn];try rfl) (by rw [hn];exact qJ 1)
theorem fzL_one {σ:Sto} {x y:AV} {l:List Nat} (h:fzA σ 6 x=some (y,l)):fzL σ 6 [x]=some ([y],l):=by
 show (match fzA σ 6 x,(some ([],[]):Option (List AV × List Nat)) with | some (y,l),some (ys,l')=>some (y::ys,l++l') | _,_=>none)=_
 rw [h]
 simp
theorem callB_fz {σ:Sto} (f:Nat->Bool):fzL σ 6 [.agg (bA f)]=some ([.agg (bA f)],[]):=fzL_one (fz_bA f)
end
section
variable {P : Program} {N : Nat} {o : Oper} {s : St}
theorem op_appendMake (n : Nat) (hn0 : 0 < n) (hn : n <= 100000000) {c : Call} {x y : Operand} {t u e id : Nat} {ti ui ei : TI} {k : IntKind} (ho : o.op = .call c) (hc : c.callee = .builtin .append) (ha : c.args = #[x, y]) (hat : c.argTypes = #[t, u]) (ht : TiOk P t ti) (hk : ti.k = .slice e) (hu : TiOk P u ui) (hku : ui.k = .int k) (he : TiOk P e ei) (hm : 0 < ei.n) (hs : ei.sz <= 1000)
  (hx:s.ev x = .raw (.slice none 0 0)) (hy:s.ev y = .i .i64 (n:Nat)) :
  OpLoc P N o s ⟨.row id ((s.σ id).ep+1) 0 n,[(id,⟨(s.σ id).ep+1,some (.row e ei.n (List.replicate n ei.z))⟩)],[]⟩:=by
 intro s' g1 g2 g3 W F μ a hr K Q hK
 have hid:s'.σ id=s.σ id:=g3 (id,⟨(s.σ id).ep+1,some (.row e ei.n (List.replicate n ei.z))⟩) (by simp)
 have opers:o.op.operands.toList=[x,y]:=by rw [ho];simp [Op.operands,Call.operands,hc,ha]
 have ex:=hr.ev x
 rw [g1 x (by rw [opers];simp),hx] at ex
 have ey:=hr.ev y
 rw [g1 y (by rw [opers];simp),hy] at ey
 obtain ⟨inf,d,z,q1,q2,q3,q4,q5,q6,q7⟩:=he.h
 have hzl:=he.zl
 have hzs:=fun W'=>zsOk_rel (W:=W') (F:=F) q7
 have hsz:z.cells.size=ei.n:=by rw [<- qL,(hzs W).1,hzl]
 have hb:n*inf.bytes<=100000000000:=by
  rw [q4]
  exact vJ (Nat.mul_le_mul hn hs) (by decide)
 have hrun:=Lib.run_append_grow_zeros W t u o.type e inf z .i64 k (ht.slice hk) (hu.int hku) q1 q6 none 0 0 [] (run_firstCells_none W.drew inf.size 0 0 0) n hn0 (by rw [q3];exact hm) (by omega) (by omega) (by omega) (by
  rw [vL]
  exact growslice_fits hn0 (by omega))
 rw [vL] at hrun
 have hG:=grownCap_ge W n 0 e
 have hG2:=grownCap_le_maxLen W n 0 e (vJ hn (by decide))
 generalize grownCap W n 0 e=G at hrun hG hG2
 generalize hcur:([]:List Value).toArray++Builtin.zeroCells z.cells n++Builtin.zeroCells z.cells (G - n)=cur at hrun
 have hzc:∀m,(Builtin.zeroCells z.cells m).size=m*ei.n:=fun m=>by simp [Builtin.zeroCells,hsz]
 have hcs:cur.size=G*ei.n:=by
  rw [<- hcur]
  simp only [uP,List.length_nil,Array.size_append,hzc,vL]
  rw [<- Nat.add_mul]
  congr 1
  omega
 have hget:∀i j,i<n->j<ei.n->cur[i*ei.n+j]?=z.cells.toList[j]?:=fun i j hi hj=>by
  have hlt:i*ei.n+j<n*ei.n:=by
   have:(i+1)*ei.n<=n*ei.n:=Nat.mul_le_mul_right _ hi
   rw [Nat.add_mul,Nat.one_mul] at this
   omega
  have hmod:(i*ei.n+j) % z.cells.size=j:=by rw [hsz,Nat.mul_comm,Nat.mul_add_mod,Nat.mod_eq_of_lt hj]
  rw [<- hcur,Array.getElem?_append_left (by simp only [uP,List.length_nil,Array.size_append,hzc,vL];exact hlt),Array.getElem?_append_right (by simp)]
  simp only [uP,List.length_nil,Nat.sub_zero,Builtin.zeroCells,hsz,Array.getElem?_map,Array.getElem?_range,hlt,if_true,Option.map_some]
  rw [hsz] at hmod
  rw [hmod,vM,getElem!_pos _ _ (by omega),uE (by omega)]
 have hkp:Kp (fun b=>(s'.σ id).body.isSome=true/\∃c,μ id=some (b,c)) W (W.drew.alloc (.cells cur e)):=((Kp.refl _ W).drew).alloc _
 have hsize:W.drew.heap.size=W.heap.size:=rfl
 have hheap:(W.drew.alloc (.cells cur e)).heap[W.heap.size]?=some (.cells cur e (0,0)):=heap_alloc_new W.drew _
 obtain ⟨hst, hi⟩ := inv_turn hr.inv id (some (W.heap.size, G)) ((s.σ id).ep + 1) (.row e ei.n (List.replicate n ei.z)) hkp (fun b c' e' => by
   have e':W.heap.size=b:=by simp only [qU,qZ] at e';exact e'.1
   subst e'
   exact ⟨by simp,.inl (qJ _)⟩) (.inl (by rw [hid];omega)) (fun hst=>by
   refine .inr ⟨W.heap.size,G,cur,rfl,hheap,by simpa using hG,hG2,hcs,fun i cs hi=>?_,fun i cs j x hi hx=>?_⟩
   ·rw [uX] at hi
    split at hi
    ·rw [<- qB hi,hzl]
    ·cases hi
   ·rw [uX] at hi
    split at hi
    ·rename_i hin
     rw [<- qB hi] at hx
     have hj:j<ei.n:=by rw [<- hzl];exact (qC.1 hx).1
     obtain ⟨v,hv⟩:∃v,z.cells.toList[j]?=some v:=⟨_,qA (by rw [qL,hsz];exact hj)⟩
     have:=(hzs (W.drew.alloc (.cells cur e))).2 j x v hx hv
     exact ⟨this.2,v,by rw [hget i j hin hj,hv],this.1⟩
    ·cases hi)
 unfold Oper.wp
 have hrun':(execOp a.eval o).run P W = .ok (.value (.slice (some ⟨W.heap.size,0,none⟩) n G)) (W.drew.alloc (.cells cur e)):=by
  simp only [execOp,ho,resolve,hc,ha,hat,List.map_toArray,vB,List.map_nil,Sem.run_bind,Sem.run_pure,Result.andThen_ok,invoke,builtin,ex.raw',ey.i',hrun]
 rw [hrun']
 refine hK _ F _ _ (hr.put hst hi (.row id _ 0 _ _ ?_ rfl fun bd' m' l' hbd hL=>?_)) hst
 ·rw [up1_eq,if_pos rfl]
  exact qJ _
 ·rw [up1_eq,if_pos rfl] at hbd
  obtain rfl:Body.row e ei.n (List.replicate n ei.z)=bd':=by simpa using hbd
  obtain ⟨rfl,rfl⟩:ei.n=m'/\(List.replicate n ei.z).length=l':=by simpa only [Body.rowL,qU,qZ] using hL
  rw [upm_eq,if_pos rfl]
  exact ⟨by simp,by simp⟩
end
theorem PDoes.raw0 {P:Program} {f:FuncId} {r:AV} (h:∀A c,PDoes P f [.raw (.slice A 0 c)] r):PDoes P f [.sl []] r:=by
 refine ⟨(h none 0).fn,fun W F vs hl hv hF hL=>?_⟩
 match vs,hl with
 | [v],_ =>
  cases (hv 0 _ _ rfl rfl) with
  | sl _ A c =>
   exact (h A c).calls W F _ rfl (fun j x v hx hv=>by
    match j,hx,hv with
    | 0,hx,hv =>
     obtain rfl:=qB hx
     obtain rfl:=qB hv
     exact .raw _) hF hL
theorem RG.ownV {P:Program} {N:Nat} {ops:Array Oper} {rest:List Oper} {s:St} {K:St->List Eff->Prop} {o:Oper} {c:Call} {f:FuncId} {xs zs zs':List AV} {r r':AV} {π π':List (Nat × Nat)} {ks:List Nat} {B0 B0' B1 up0:List (Nat × SB)} {d:Option Nat}
  (h:∀q,MDoes P f zs (gl q ks B0) r (gl q ks B1)) (hg:gd ops s o=some true) (ho:o.op = .call c) (ha:argsA s c=some (f,xs))
  (hz:optL (xs.map (rmA π s.σ (fun _=>0)))=some zs') (hz':zs'=zs) (hb:rmS π s.σ (fun _=>0) π=some B0') (hb':B0'=B0)
  (hu:rmS π' (lkB B1) (ep2 s.σ π π' ks B1) π'=some up0) (hr':rmA π' (lkB B1) (ep2 s.σ π π' ks B1) r=some r') (hk:okO s.σ π π' B0=true) (hd:o.dst=d)
  (hr:RG P N ops rest ⟨putS N s.ts d r',ups s.σ (up0++gone s.σ π' π)⟩ fun s' Es=>K s' (⟨r',up0++gone s.σ π' π,[]⟩::Es)):RG P N ops (o::rest) s K:=by
 subst hz' hb' hd
 unfold argsA at ha
 split at ha
 case h_2=>cases ha
 rename_i fop hc
 split at ha
 case h_2=>cases ha
 rename_i f' first caps hf
 simp only [qU,qZ] at ha
 obtain ⟨rfl,rfl⟩:=ha
 simp only [okO,qN] at hk
 obtain ⟨⟨⟨⟨⟨⟨k1,k2⟩,k3⟩,k4⟩,k5⟩,k6⟩,k7⟩:=hk
 have n1:=nodupB_ok k1
 have n3:=nodupB_ok k3
 obtain ⟨u1,u2⟩:=rmS_ok hu
 obtain ⟨b1,b2⟩:=rmS_ok hb
 have hkeys:((up0++gone s.σ π' π).map (·.1)).Nodup:=by rw [vZ,u1];exact nodupB_ok k7
 have hat:∀q∈up0++gone s.σ π' π,ups s.σ (up0++gone s.σ π' π) q.1=q.2:=fun q hq=>ups_at hkeys hq
 have hS0:RmS π s.σ (lkB B0') (fun _=>0):=rmS_RmS hb (fun q hq=>lkB_in (by rw [b1];exact n1) hq) n1
 have hS1:RmS π' (lkB B1) (ups s.σ (up0++gone s.σ π' π)) (ep2 s.σ π π' ks B1):=rmS_RmS hu (fun q hq=>hat q (vN _ hq)) n3
 obtain ⟨z1,z2⟩:=optL_ok hz
 have body2:∀id∈(up0++gone s.σ π' π).map (·.1),∀bd2,(ups s.σ (up0++gone s.σ π' π) id).body=some bd2->∃p∈π',p.2=id/\ups s.σ (up0++gone s.σ π' π) id=⟨ep2 s.σ π π' ks B1 id,some bd2⟩/\∃bd,(lkB B1 p.1).body=some bd/\rmB π' (lkB B1) (ep2 s.σ π π' ks B1) bd=some bd2:=fun id hid bd2 hb2=>by
  obtain ⟨q,hq,rfl⟩:=vF.1 hid
  rw [hat q hq] at hb2 ⊢
  rcases vA.1 hq with h1 | h1
  ·obtain ⟨p,hp,e1,bd,bd',e2,e3,e4⟩:=u2 q h1
   rw [e4] at hb2
   obtain rfl:=qB hb2
   exact ⟨p,hp,e1,by rw [e4,e1],bd,e2,e3⟩
  ·rw [(gone_in h1).1] at hb2
   cases hb2
 refine RG.opB hg (fn_bd (h fun _=>none).fn ho hc hf) (oploc_callO (π:=π) (π':=π') (ks:=ks) ho hc hf h z1 (fun j x z hx hz=>rmA_ok hS0 (z2 j x z hx hz)) n1 (nodupB_ok k2) (fun p hp=>qV (qW.1 k5 p hp)) (fun k bd' hbd=>?_) (fun p hp=>?_) n3
  (fun p hp q hq e=>?_) (fun p hp=>qV (qW.1 k6 p hp)) (fun p hp=>?_) (fun id hid bd2 hb2=>?_) (fun id hid=>?_) (fun id hid he bd2 hb2=>?_) (rmA_ok hS1 hr')) hr
 ·obtain ⟨q,hq,e1,e2⟩:=lkB_some hbd
  obtain ⟨p,hp,e3,bd,bd1,e4,e5,e6⟩:=b2 q hq
  rw [<- e2,e6] at hbd
  obtain rfl:=qB hbd
  exact ⟨p,hp,e3.trans e1,bd,e4,rmB_ok hS0 e5⟩
 ·rw [vZ,vA,u1]
  exact (gone_all hp).symm
 ·have:∀(l:List (Nat × Nat)),(l.map (·.1)).Nodup->p∈l->q∈l->p=q:=by
   intro l
   induction l with
   | nil=>intro _ h;cases h
   | cons a l ih =>
    intro hl h5 h6
    rw [vB,vR] at hl
    rcases vC.1 h5 with g5 | g5 <;> rcases vC.1 h6 with g6 | g6
    ·rw [g5,g6]
    ·exact (hl.1 (by rw [<- g5,e];exact qX (f:=(·.1)) g6)).elim
    ·exact (hl.1 (by rw [<- g6,<- e];exact qX (f:=(·.1)) g5)).elim
    ·exact ih hl.2 g5 g6
  exact this π' (nodupB_ok k4) hp hq
 ·rw [vZ,vA,u1]
  exact .inl (qX (f:=(·.2)) hp)
 ·obtain ⟨p,hp,e1,_,bd,e2,e3⟩:=body2 id hid bd2 hb2
  exact ⟨p,hp,e1,bd,e2,rmB_ok hS1 e3⟩
 ·obtain ⟨q,hq,rfl⟩:=vF.1 hid
  rw [hat q hq]
  rcases vA.1 hq with h1 | h1
  ·obtain ⟨p,hp,e1,bd,bd',e2,e3,e4⟩:=u2 q h1
   rw [e4,e1]
   unfold ep2
   cases kept s.σ π π' ks B1 q.1
   ·exact Nat.le_succ _
   ·exact qJ _
  ·rw [(gone_in h1).1];exact qJ _
 ·obtain ⟨p,hp,e1,e0,bd,e2,e3⟩:=body2 id hid bd2 hb2
  rw [e0] at he
  have hkp:kept s.σ π π' ks B1 id=true:=by
   replace he:ep2 s.σ π π' ks B1 id=(s.σ id).ep:=he
   unfold ep2 at he
   cases hk:kept s.σ π π' ks B1 id
   ·rw [hk,cond_false] at he;omega
   ·rfl
  obtain ⟨k,hk,m1,m2,bd0,bd1,g1,g2,g3⟩:=kept_ok hkp
  have hbd:rmB π' (lkB B1) (ep2 s.σ π π' ks B1) bd1=some bd2:=by
   have:p=(k,id):=by
    have:∀(l:List (Nat × Nat)),(l.map (·.2)).Nodup->p∈l->(k,id)∈l->p=(k,id):=by
     intro l
     induction l with
     | nil=>intro _ h;cases h
     | cons a l ih =>
      intro hl h5 h6
      rw [vB,vR] at hl
      rcases vC.1 h5 with g5 | g5 <;> rcases vC.1 h6 with g6 | g6
      ·rw [g5,g6]
      ·exact (hl.1 (by rw [<- g5,e1];exact qX (f:=(·.2)) g6)).elim
      ·exact (hl.1 (by rw [<- g6];show id∈_;rw [<- e1];exact qX (f:=(·.2)) g5)).elim
      ·exact ih hl.2 g5 g6
    exact this π' n3 hp m2
   rw [this] at e2
   have:bd=bd1:=qB (e2.symm.trans (by show (lkB B1 k).body=_;rw [g1]))
   rw [<- this];exact e3
  refine ⟨k,hk,m1,m2,⟨bd1,g1⟩,bd0,g2,?_⟩
  rw [<- g3]
  have hR:=rmB_ok hS1 hbd
  cases hR with
  | box hl _ _=>show (true,_,_,0)=(true,_,_,0);rw [hl]
  | row=>rfl
  | obj=>rfl
theorem RG.ownNV {P:Program} {N:Nat} {ops:Array Oper} {rest:List Oper} {ts:Nat->AV} {σ:Sto} {K:St->List Eff->Prop} {o:Oper} {c:Call} {f:FuncId} {xs zs zs':List AV} {r r':AV} (π π':List (Nat × Nat)) {ks:List Nat} {B0 B0' B1 up:List (Nat × SB)} {d:Option Nat}
  (h:∀q,MDoes P f zs (gl q ks B0) r (gl q ks B1)) (hg:gd ops ⟨ts,σ⟩ o=some true) (ho:o.op = .call c) (ha:argsA ⟨ts,σ⟩ c=some (f,xs))
  (hz:optL (xs.map (rmA π σ (fun _=>0)))=some zs') (hz':zs'=zs) (hb:rmS π σ (fun _=>0) π=some B0') (hb':B0'=B0)
  (hu:ownR σ π π' ks B1 r=some (r',up)) (hk:okO σ π π' B0=true) (hd:o.dst=d)
  (hr:RG P N ops rest ⟨putS N ts d r',ups σ up⟩ fun s' Es=>K s' (⟨r',up,[]⟩::Es)):RG P N ops (o::rest) ⟨ts,σ⟩ K:=by
 unfold ownR at hu
 split at hu
 ·rename_i up0 r1 e1 e2
  simp only [forceV_eq,forceUN_eq,qU,qZ] at hu
  obtain ⟨rfl,rfl⟩:=hu
  exact RG.ownV h hg ho ha hz hz' hb hb' e1 e2 hk hd hr
 ·cases hu
structure NestC (W:World) (F:Nat->Prop) (μ:Mu) (σ:Sto) (els:List AV) (cells:List Value):Prop where
 n:cells.length=els.length
 r:∀(k:Nat) (x:AV),els[k]?=some x->x.one=true/\∃u,cells[k]?=some u/\Rel W F μ σ x u
theorem NestC.stp {W W':World} {F F':Nat->Prop} {μ μ':Mu} {σ σ':Sto} (hi:Inv W F μ σ) (hs:Stp W F μ σ W' F' μ' σ') {els:List AV} {cells:List Value} (h:NestC W F μ σ els cells):NestC W' F' μ' σ' els cells :=
 ⟨h.n,fun k x hx=>by obtain ⟨r1,u,r2,r3⟩:=h.r k x hx;exact ⟨r1,u,r2,r3.stp hi hs⟩⟩
theorem NestC.one {W:World} {F:Nat->Prop} {μ:Mu} {σ:Sto} {els:List AV} {cells:List Value} (h:NestC W F μ σ els cells) {k:Nat} {u:Value} (hu:cells[k]?=some u):u.oneCell'=true:=by
 have hk:k<els.length:=by rw [<- h.n];exact (qC.1 hu).1
 obtain ⟨r1,u',r2,r3⟩:=h.r k _ (qA hk)
 obtain rfl:=qB (hu.symm.trans r2)
 exact r3.one r1
theorem NestC.body {W:World} {F:Nat->Prop} {μ:Mu} {σ:Sto} {t b cap:Nat} {els:List AV} {cells:List Value} {cur:Array Value} (h:NestC W F μ σ els cells) (hh:W.heap[b]?=some (.cells cur t (0,0))) (h1:els.length<=cap) (h2:cap<=maxLen) (h3:cur.size=cap)
  (h4:cur.toList.take els.length=cells):BodyRel W F μ σ (some (b,cap)) (.nest t els):=by
 refine .inr ⟨b,cap,cur,rfl,hh,h1,h2,h3,fun k x hk=>?_⟩
 obtain ⟨r1,u,r2,r3⟩:=h.r k x hk
 refine ⟨r1,u,?_,r3⟩
 rw [<- h4,uB] at r2
 split at r2
 ·simpa using r2
 ·cases r2
def Rt (N:Nat) (s:St) {ι:Type} (st:ι->St) (J:ι->Prop):Prop :=
 ∀W F μ a,RS N W F μ s a->∃F' μ' i,J i/\RS N W F' μ' (st i) a/\Stq W F μ s.σ W F' μ' (st i).σ
section
variable {P : Program} {N : Nat} {Q : Exit -> St -> Prop} {s : St} {c : Code} {ι : Type}
theorem Rt.wk {st:ι->St} {J:ι->Prop} (i:ι) (hJ:J i) (h:Wk s (st i)):Rt N s st J:=fun W F μ a hr=>⟨F,μ,i,hJ,h.rs hr,h.stp W F μ⟩
theorem Rt.trans {κ:Type} {s1:κ->St} {K:κ->Prop} {st:ι->St} {J:ι->Prop} (h:Rt N s s1 K) (h':∀k,K k->Rt N (s1 k) st J):Rt N s st J:=by
 intro W F μ a hr
 obtain ⟨F',μ',k,hK,hr',hs⟩:=h W F μ a hr
 obtain ⟨F'',μ'',i,hJ,hr'',hs'⟩:=h' k hK W F' μ' a hr'
 exact ⟨F'',μ'',i,hJ,hr'',hs.trans hs'⟩
end
def lkF (b:List (Nat × SB)) (f:Nat->SB):Sto:=fun id=>cond (Nat.ble 1000 id) (f (id - 1000)) (lkB b id)
theorem lkF_hi (b:List (Nat × SB)) (f:Nat->SB) (k:Nat):lkF b f (k+1000)=f k:=by
 have h:Nat.ble 1000 (k+1000)=true:=Nat.ble_eq_true_of_le (Nat.le_add_left 1000 k)
 show cond (Nat.ble 1000 (k+1000)) (f (k+1000 - 1000)) _=_
 rw [h,Nat.add_sub_cancel]
 rfl
theorem lkF_lo (b:List (Nat × SB)) (f:Nat->SB) {id:Nat} (h:id<1000):lkF b f id=lkB b id:=by
 have:Nat.ble 1000 id=false:=by
  cases e:Nat.ble 1000 id
  ·rfl
  ·exact absurd (qV e) (by omega)
 rw [lkF,this,cond_false]
theorem WkF.to {s : St} {l : List (Nat × AV)} {b : List (Nat × SB)} {f : Nat -> SB} (ht : WkT s (lkF b f) l) (hB : WkB s (lkF b f) b)
  (hf:∀k bd',(f k).body=some bd'->∃bd,(s.σ (k+1000)).body=some bd/\RnB s.σ (lkF b f) bd bd'):Wk s ⟨lkT l,lkF b f⟩ :=
 ⟨wkT_ok ht,fun id bd' h=>by
  by_cases hid:1000<=id
  ·obtain ⟨k,rfl⟩:∃k,id=k+1000:=⟨id - 1000,by omega⟩
   rw [show (⟨lkT l,lkF b f⟩:St).σ (k+1000)=f k from lkF_hi b f k] at h
   exact hf k bd' h
  ·rw [show (⟨lkT l,lkF b f⟩:St).σ id=lkB b id from lkF_lo b f (by omega)] at h
   exact wkB_ok hB id bd' h⟩
theorem RnB.rel {W:World} {F:Nat->Prop} {μ:Mu} {σ σ':Sto} {bd bd':Body} (hR:RnB σ σ' bd bd') {p:Option (Nat × Nat)} (hB:BodyRel W F μ σ p bd):BodyRel W F μ σ' p bd':=by
 cases hR with
 | row t m els=>exact hB
 | rowT t m n els=>exact hB.take n
 | obj o=>exact hB
 | @nest t els els' hl h1 hrn =>
  rcases hB with ⟨hn,rfl⟩ | ⟨b,cap,cur,hp,hh,q1,q2,q3,q4⟩
  ·exact .inl ⟨hn,uA.1 hl⟩
  ·refine .inr ⟨b,cap,cur,hp,hh,by omega,q2,q3,fun k x' hk=>⟨h1 k x' hk,?_⟩⟩
   obtain ⟨x,hx⟩:∃x,els[k]?=some x:=⟨_,qA (by rw [<- hl];exact (qC.1 hk).1)⟩
   obtain ⟨_,v,hv,hr'⟩:=q4 k x hx
   exact ⟨v,hv,(hrn k x x' hx hk).rel hr'⟩
 | ghost h h'=>exact ⟨hB.1,by rw [h'];exact qJ _,fun bd _=>hB.2.2 _ h⟩
 | @box t cs cs' hl h1 hrn =>
  obtain ⟨b,c,vs,hm,hw,hlv,hv⟩:=hB
  refine ⟨b,c,vs,hm,hw,by rw [hlv,hl],fun j x' v hj hvj=>⟨h1 j x' hj,?_⟩⟩
  obtain ⟨x,hxj⟩:∃x,cs[j]?=some x:=⟨_,qA (by rw [<- hl];exact (qC.1 hj).1)⟩
  exact (hrn j x x' hxj hj).rel (hv j x v hxj hvj).2
end Go.Proofs.YtdidjpohnopihaaGreat.Sm
end
