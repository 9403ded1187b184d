/- Contracts of the program's functions over data, and the plain laws that they meet (part 2). No condition. -/
import Derived.Test.YthgbdoofchknhaaGreatDoorZsa
import Derived.Shelf.Strings.Builder1
import Derived.Shelf.Strings.Builder2
import Derived.Shelf.Strings.OnBuilder
import Derived.Shelf.Small.Strs
import Derived.Shelf.Strings.BuilderF
import Derived.Shelf.Strings.BuilderK
import Derived.Shelf.Utf8.RuneCount
import Derived.Shelf.Strings.Builder2Cap
import Derived.Shelf.Strconv.Atoi
import Derived.Shelf.Strconv.Itoa0
import Derived.Shelf.Strconv.Itoa1
import Derived.Shelf.LaysM
import Derived.Shelf.Strconv.Itoa2
import Derived.Shelf.Strconv.Itoa3
import Derived.Shelf.Strconv.AtoiErrFast
import Derived.Shelf.Strconv.ParseIntEmpty
import Derived.Shelf.Strconv.AtoiFail
import Derived.Shelf.Strconv.Clone
import Derived.Shelf.Strconv.SyntaxError
import Derived.Shelf.LaysC
import Derived.Shelf.Strconv.ToError
import Derived.Shelf.Strconv.AtoiErr
import Derived.Shelf.Strconv.ErrVar
import Derived.Shelf.Strconv.Lower
import Derived.Shelf.Strconv.ParseUint10
import Derived.Shelf.Strconv.ParseUint10Empty
import Derived.Shelf.Strconv.ParseUint10Any
import Derived.Shelf.Strconv.ParseInt10
import Derived.Shelf.Strconv.AtoiLong
import Derived.Shelf.Strconv.AtoiInnerAll
import Derived.Shelf.Strconv.RangeError
import Derived.Shelf.Strconv.ToErrorRange
import Derived.Shelf.Strconv.AtoiAll
import Derived.Shelf.Strconv.ErrVarAll
import Derived.Shelf.Strconv.ParseUintEmpty
import Derived.Shelf.Strconv.ParseUint10b64
import Derived.Shelf.Strconv.ParseUint10b32
import Derived.Shelf.Strconv.ParseUint10b16
import Derived.Shelf.Strconv.ParseUint10b8
import Derived.Shelf.Strconv.ParseUint10At
import Derived.Shelf.Strconv.ParseInt10At64
import Derived.Shelf.Strconv.ParseInt10At32
import Derived.Shelf.Strconv.ParseInt10At16
import Derived.Shelf.Strconv.ParseInt10At8
import Derived.Shelf.Strconv.ParseInt10All
import Derived.Ground.MpProg
import Derived.Shelf.Pu.ParseUintPublic10
import Derived.Shelf.Pu.ErrVarParseUint
import Derived.Shelf.Strings.Search1
import Derived.Shelf.Strings.Search2
import Derived.Shelf.Strings.Search3
import Derived.Shelf.Strings.Cut
import Derived.Shelf.Strings.Count
import Derived.Shelf.Strings.Shaped
import Derived.Shelf.Strings.Prefix
import Derived.Shelf.Strings.Split
import Derived.Shelf.Strings.SplitShaped
import Derived.Shelf.Unicode.Decode
import Derived.Shelf.Strings.RuneCount
import Derived.Shelf.Strings.Explode
import Derived.Shelf.Bits.Mul64
import Derived.Shelf.Strings.Repeat
import Derived.Shelf.Unicode.DecodeSlow
import Derived.Shelf.Unicode.DecodeAny
import Derived.Shelf.Strings.BuilderCap
import Derived.Shelf.Bytes.SlSearch0
import Derived.Ground.SlbCloneProg
import Derived.Shelf.Bytes.SlClone
import Derived.Shelf.Bytes.SlEqualAll
import Derived.Shelf.Bytes.Small
import Derived.Test.YthgbdoofchknhaaGreatDoorProg
import Derived.WalkKit
import Derived.WalkSpells
import Derived.WalkLawsBesides
import Derived.Lib.Hide
import Derived.Deep.RegionHeld3
import Derived.Maps.AppendAt
import Derived.KernelRfl
import Derived.Lib.AppendStr
import Derived.Lib.FrozenHead2
import Derived.Lib.OthersKept
import Derived.Lib.LaidTab
import Derived.Lib.ItoaNum
import Derived.Lib.SmallJoins
import Derived.Orders
import Derived.LoopTactic
import Derived.Laws.CopyRow
import Derived.Laws.Cells
import Derived.OrdersIn
import Derived.Laws.Externs
import Derived.TacticsIn
import Derived.RangeFuncLeaves
import Derived.RangeFuncRecord
import Derived.Great.BuildSlice
import Derived.Deep.Slices
import Derived.Deep.Fields
import Derived.ChangeSame
import Derived.ProofKit
import Derived.OpenShut
import Derived.SizedLaws
import Derived.Lib.SplitLaws
import Derived.Lib.AtoiAllMem
import Derived.Lib.Join
import Derived.Lib.AtoiErrMem
set_option linter.unusedVariables false
set_option linter.unusedSimpArgs false
set_option maxRecDepth 100000
set_option maxHeartbeats 4000000
section
section
namespace Go.Proofs.YthgbdoofchknhaaGreatDoor.Sm
open Go.RowKit
theorem _root_.Go.Proofs.YthgbdoofchknhaaGreatDoor.Kp.setRow' {S:Nat->Prop} {a w:World} (h:Kp S a w) {g:Nat} (hg:S g) (cs:Array Value):Kp S a (w.setRow g cs) :=
 ⟨h.os,h.tape,h.output,by simpa [World.setRow] using h.size,fun k hk hn=>(setRow_other w g k cs (fun e=>hn (e ▸ hg))).trans (h.block k hk hn)⟩
inductive CA (σ:Sto):AV->List AV->List Nat->Prop where
 | ro (cs:List AV):CA σ (.ro cs) cs []
 | own {id ep off t:Nat} {cs:List AV} (h:σ id=⟨ep,some (.box t cs)⟩):CA σ (.own id ep off) (cs.drop off) [id]
 | el {id ep k j t m:Nat} {els:List (List AV)} {cs:List AV} (h:σ id=⟨ep,some (.row t m els)⟩) (hk:els[k]?=some cs):CA σ (.el id ep k j) (cs.drop j) [id]
theorem CA.congr {σ σ':Sto} {x:AV} {cs:List AV} {l:List Nat} (h:CA σ x cs l) (hl:∀id∈l,σ' id=σ id):CA σ' x cs l:=by
 cases h with
 | ro cs=>exact .ro cs
 | own h=>exact .own ((hl _ (by simp)).trans h)
 | el h hk=>exact .el ((hl _ (by simp)).trans h) hk
section
variable {W : World} {F : Nat -> Prop} {μ : Mu} {σ : Sto} {v : Value} {id ep : Nat}
theorem Rel.own' {off:Nat} (h:Rel W F μ σ (.own id ep off) v):ep<=(σ id).ep/\v.oneCell'=true/\∀bd,σ id=⟨ep,some bd⟩->∃b c,μ id=some (b,c)/\v = .pointer (some ⟨b,off,none⟩):=by
 cases h with
 | pure h=>cases h
 | own _ _ _ _ h1 h2 h3=>exact ⟨h1,h2,h3⟩
theorem Rel.el' {k j:Nat} (h:Rel W F μ σ (.el id ep k j) v):ep<=(σ id).ep/\v.oneCell'=true/\∀t m els,σ id=⟨ep,some (.row t m els)⟩->∃b c,μ id=some (b,c)/\v = .pointer (some ⟨b,k*m+j,none⟩):=by
 cases h with
 | pure h=>cases h
 | el _ _ _ _ _ h1 h2 h3=>exact ⟨h1,h2,fun t m els h=>h3 _ _ _ h rfl⟩
theorem Rel.elG {k j:Nat} (h:Rel W F μ σ (.el id ep k j) v):ep<=(σ id).ep/\v.oneCell'=true/\∀bd m len,σ id=⟨ep,some bd⟩->bd.rowL=some (m,len)->∃b c,μ id=some (b,c)/\v = .pointer (some ⟨b,k*m+j,none⟩):=by
 cases h with
 | pure h=>cases h
 | el _ _ _ _ _ h1 h2 h3=>exact ⟨h1,h2,h3⟩
theorem Rel.row' {off n:Nat} (h:Rel W F μ σ (.row id ep off n) v):ep<=(σ id).ep/\v.oneCell'=true/\∀t m els,σ id=⟨ep,some (.row t m els)⟩->RowV (μ id) m off n els.length v:=by
 cases h with
 | pure h=>cases h
 | row _ _ _ _ _ h1 h2 h3=>exact ⟨h1,h2,fun t m els h=>h3 _ _ _ h rfl⟩
end
theorem CA.cells {W : World} {F : Nat -> Prop} {μ : Mu} {σ : Sto} (hi : Inv W F μ σ) {x : AV} {cs : List AV} {l : List Nat} (h : CA σ x cs l) {v : Value} (hx : Rel W F μ σ x v) :
    ∃b off,v = .pointer (some ⟨b,off,none⟩)/\∀(j:Nat) (y:AV),cs[j]?=some y->y.one=true/\∃u,W.cell? ⟨b,off+j,none⟩=some u/\Rel W F μ σ y u:=by
  cases h with
  | ro cs =>
    cases hx.ro' with
    | ro _ b off cell hF hb h1 hr hw=>exact ⟨b,off,rfl,fun j y hj=>⟨h1 j y hj,_,hw j y hj,.pure (hr j y hj)⟩⟩
  | own h =>
      obtain ⟨he,h1,hv⟩:=Rel.own' hx
      obtain ⟨b,c,hp,rfl⟩:=hv _ h
      obtain ⟨b',c',vs,hp',hh,hl,hr⟩:=hi.body _ _ _ h
      obtain ⟨rfl,rfl⟩:b=b'/\c=c':=by rw [hp] at hp';simpa using hp'
      refine ⟨b,_,rfl,fun j y hj=>?_⟩
      rw [List.getElem?_drop] at hj
      have hlt:=(List.getElem?_eq_some_iff.1 hj).1
      have hu:=List.getElem?_eq_getElem (l:=vs) (by rw [hl];exact hlt)
      obtain ⟨g1,g2⟩:=hr _ _ _ hj hu
      exact ⟨g1,_,by rw [cell_of_row _ b _ _ _ (0,0) hh,List.getElem?_toArray];exact hu,g2⟩
  | el h hk =>
      obtain ⟨he,h1,hv⟩:=Rel.el' hx
      obtain ⟨b,c,hp,rfl⟩:=hv _ _ _ h
      rcases hi.body _ _ _ h with ⟨hn,rfl⟩ | ⟨b',cap,cur,hp',hh,g1,g2,g3,g4,g5⟩
      · simp at hk
      · obtain ⟨rfl,rfl⟩:b=b'/\c=cap:=by rw [hp] at hp';simpa using hp'
        refine ⟨b,_,rfl,fun q y hq=>?_⟩
        rw [List.getElem?_drop] at hq
        obtain ⟨q1,u,q2,q3⟩:=g5 _ _ _ _ hk hq
        exact ⟨q1,u,by rw [cell_of_row _ b _ _ _ (0,0) hh,Nat.add_assoc];exact q2,.pure q3⟩
def ovw:List AV->Nat->List AV->List AV
 | cs,_,[]=>cs
 | [],_,_::_=>[]
 | _::cs,0,n::ns=>n::ovw cs 0 ns
 | c::cs,k+1,n::ns=>c::ovw cs k (n::ns)
theorem ovw_length:∀(cs:List AV) (k:Nat) (ns:List AV),(ovw cs k ns).length=cs.length
 | cs,_,[]=>by cases cs <;> rfl
 | [],_,_::_=>rfl
 | _::cs,0,_::ns=>by simp [ovw,ovw_length cs 0 ns]
 | _::cs,k+1,n::ns=>by simp [ovw,ovw_length cs k (n::ns)]
theorem ovw_get:∀(cs:List AV) (k:Nat) (ns:List AV) (j:Nat),k+ns.length<=cs.length->(ovw cs k ns)[j]?=if k<=j/\j<k+ns.length then ns[j - k]? else cs[j]?
  | cs,k,[],j,_=>by
    rw [if_neg (by simp only [List.length_nil];omega)]
    cases cs <;> rfl
  | [],_,_::_,_,h=>by simp at h
  | c::cs,0,n::ns,0,h=>by simp [ovw]
  | c::cs,0,n::ns,j+1,h=>by
    have:=ovw_get cs 0 ns j (by simp at h ⊢;omega)
    simp only [ovw,List.getElem?_cons_succ,this,List.length_cons]
    by_cases e:j<ns.length
    · rw [if_pos (by omega),if_pos (by omega)]
      rfl
    · rw [if_neg (by omega),if_neg (by omega)]
  | c::cs,k+1,n::ns,0,h=>by simp [ovw]
  | c::cs,k+1,n::ns,j+1,h=>by
    have:=ovw_get cs k (n::ns) j (by simp at h ⊢;omega)
    simp only [ovw,List.getElem?_cons_succ,this]
    by_cases e:k<=j/\j<k+(n::ns).length
    · rw [if_pos e,if_pos (by omega),show j+1 - (k+1)=j - k by omega]
    · rw [if_neg e,if_neg (by omega)]
def AV.cells:AV->List AV
 | .agg cs=>cs
 | x=>[x]
theorem cells_rel {W:World} {F:Nat->Prop} {μ:Mu} {σ:Sto} {x:AV} {v:Value} (h:Rel W F μ σ x v) (h1:∀y∈x.cells,y.one=true):v.cells.toList.length=x.cells.length/\∀(j:Nat) (y:AV) (u:Value),x.cells[j]?=some y->v.cells.toList[j]?=some u->y.one=true/\Rel W F μ σ y u:=by
 cases x with
 | agg cs =>
  obtain ⟨vs,rfl,hl,g1,hr⟩:=h.agg'
  exact ⟨by simpa [Value.cells,AV.cells] using hl,fun j y u hj hu=>⟨g1 j y hj,hr j y u hj (by simpa [Value.cells] using hu)⟩⟩
 | _ =>
  have hv:=h.one (h1 _ (by simp [AV.cells]))
  have e:v.cells.toList=[v]:=by
   cases v <;> first | rfl | (simp [Value.oneCell'] at hv;done)
  rw [e]
  refine ⟨rfl,fun j y u hj hu=>?_⟩
  cases j with
  | zero =>
   obtain rfl:=Option.some.inj hj
   obtain rfl:=Option.some.inj hu
   exact ⟨h1 _ (by simp [AV.cells]),h⟩
  | succ j=>simp [AV.cells] at hj
theorem ca_ptr {W:World} {b off j:Nat}:(⟨b,off,none⟩:Addr).add j=⟨b,off+j,none⟩:=by
 unfold Addr.add
 split <;> simp_all
section
variable {P : Program} {N : Nat} {o : Oper} {s : St}
def ldA (ti:TI) (cs:List AV):Option AV:=cond ti.k.ag (cond (Nat.ble ti.n cs.length) (some (.agg (cs.take ti.n))) none) cs.head?
theorem op_load {t:TypeId} {ti:TI} {p:Operand} {cs:List AV} {l:List Nat} {r:AV} (ho:o.op = .load t p) (ht:TiOk P t ti) (hp:CA s.σ (s.ev p) cs l) (hr:ldA ti cs=some r):OpLoc P N o s ⟨r,[],l⟩:=by
 refine oploc_val l _ fun s' W F μ a h1 h2 hs=>?_
 have ep:=hs.ev p
 rw [h1 p (by rw [ho];simp [Op.operands])] at ep
 obtain ⟨b,off,hv,hc⟩:=(hp.congr h2).cells hs.inv ep
 unfold ldA at hr
 cases hag:ti.k.ag with
 | true =>
  rw [hag,cond_true] at hr
  cases hle:Nat.ble ti.n cs.length with
  | false=>rw [hle] at hr;cases hr
  | true =>
   have hn:ti.n<=cs.length:=Nat.le_of_ble_eq_true hle
   rw [hle,cond_true] at hr
   obtain rfl:=Option.some.inj hr
   let f:Nat->Value:=fun j=>(W.cell? ⟨b,off+j,none⟩).getD undef
   have get:∀(j:Nat) (y:AV),cs[j]?=some y->W.cell? ⟨b,off+j,none⟩=some (f j)/\y.one=true/\Rel W F μ s'.σ y (f j):=fun j y hj=>by
    obtain ⟨g1,u,g2,g3⟩:=hc j y hj
    have:f j=u:=by simp only [f,g2];rfl
    exact ⟨by rw [this];exact g2,g1,by rw [this];exact g3⟩
   have hrun:(loadCells ⟨b,off,none⟩ ti.n).run P W = .ok ((List.range ti.n).map f).toArray W:=run_loadCells W _ ti.n f fun j hj=>by
    rw [ca_ptr (W:=W)]
    exact (get j _ (List.getElem?_eq_getElem (by omega))).1
   refine ⟨.agg ((List.range ti.n).map f).toArray,?_,.agg _ _ ?_ (fun j x hj=>?_) (fun j x v hj hv'=>?_)⟩
   ·simp only [execOp,ho,hv,Instr.loadAt,Instr.sureAddr,loadVar,Sem.run_bind,Sem.run_pure,Result.andThen_ok,ht.agg,hag,if_true,ht.size,hrun]
   ·simp;omega
   ·rw [List.getElem?_take] at hj
    split at hj
    ·exact (get j x hj).2.1
    ·cases hj
   ·rw [List.getElem?_take] at hj
    split at hj
    ·rename_i hlt
     have:f j=v:=by simpa [hlt] using hv'
     rw [<- this]
     exact (get j x hj).2.2
    ·cases hj
 | false =>
  rw [hag,cond_false,List.head?_eq_getElem?] at hr
  obtain ⟨g1,u,g2,g3⟩:=hc 0 _ hr
  refine ⟨u,?_,g3⟩
  have hrun:(load ⟨b,off,none⟩).run P W = .ok u W:=by simp [load,Sem.run,show W.cell? ⟨b,off,none⟩=some u from g2]
  simp only [execOp,ho,hv,Instr.loadAt,Instr.sureAddr,loadVar,Sem.run_bind,Sem.run_pure,Result.andThen_ok,ht.agg,hag,Bool.false_eq_true,if_false,hrun]
def fldA (off:Nat):AV->Option AV
 | .ro cs=>some (.ro (cs.drop off))
 | .own id ep o=>some (.own id ep (o+off))
 | .el id ep k j=>some (.el id ep k (j+off))
 | _=>none
theorem ptr_add {W:World} {F:Nat->Prop} {μ:Mu} {σ:Sto} {x y:AV} {v:Value} {off:Nat} (hx:Rel W F μ σ x v) (hy:fldA off x=some y) {a:Addr} (hv:v = .pointer (some a)):Rel W F μ σ y (.pointer (some (a.add off))):=by
 subst hv
 cases x <;> simp only [fldA,Option.some.injEq,reduceCtorEq] at hy
 all_goals subst hy
 ·generalize hq:Value.pointer (some a)=q at hx
  cases hx.ro' with
  | ro cs b o cell hF hb h1 hr hw =>
   obtain rfl:a=⟨b,o,none⟩:=by simpa using hq
   rw [ca_ptr (W:=W)]
   refine .pure (.ro _ b (o+off) (fun j=>cell (off+j)) hF hb (fun j x hj=>?_) (fun j x hj=>?_) (fun j x hj=>?_))
   ·rw [List.getElem?_drop] at hj;exact h1 _ _ hj
   ·rw [List.getElem?_drop] at hj;exact hr _ _ hj
   ·rw [List.getElem?_drop] at hj;rw [Nat.add_assoc];exact hw _ _ hj
 ·obtain ⟨he,h1,h⟩:=Rel.own' hx
  refine .own _ _ _ _ he rfl fun bd hbd=>?_
  obtain ⟨b,c,hp,e⟩:=h bd hbd
  injection e with e
  injection e with e
  rw [e]
  exact ⟨b,c,hp,by rw [ca_ptr (W:=W)]⟩
 ·obtain ⟨he,h1,h⟩:=Rel.elG hx
  refine .el _ _ _ _ _ he rfl fun bd m len hbd hL=>?_
  obtain ⟨b,c,hp,e⟩:=h bd m len hbd hL
  injection e with e
  injection e with e
  rw [e]
  exact ⟨b,c,hp,by rw [ca_ptr (W:=W),Nat.add_assoc]⟩
theorem op_nilCheck {x:Operand} {cs:List AV} {l:List Nat} (ho:o.op = .nilCheck x) (hx:CA s.σ (s.ev x) cs l):OpLoc P N o s ⟨s.ev x,[],l⟩:=by
 refine oploc_val l _ fun s' W F μ a h1 h2 hs=>?_
 have ex:=hs.ev x
 rw [h1 x (by rw [ho];simp [Op.operands])] at ex
 obtain ⟨b,off,hv,_⟩:=(hx.congr h2).cells hs.inv ex
 exact ⟨_,by simp only [execOp,ho,hv,Sem.run_pure],hv ▸ ex⟩
theorem op_nilCheckF {x:Operand} {f:FuncId} {fs cs:List AV} (ho:o.op = .nilCheck x) (hx:s.ev x = .fn f fs cs):OpLoc P N o s ⟨s.ev x,[],[]⟩:=by
 refine oploc_val [] _ fun s' W F μ a h1 h2 hs=>?_
 have ex:=hs.ev x
 rw [h1 x (by rw [ho];simp [Op.operands])] at ex
 have ex':=ex
 rw [hx] at ex'
 obtain ⟨_,_,hv,_⟩:=ex'.fn'
 exact ⟨_,by simp only [execOp,ho,hv,Sem.run_pure],hv ▸ ex⟩
theorem op_fieldAddr {t f:Nat} {ti:TI} {fs:List (Nat × Nat)} {p:Operand} {ft off:Nat} {fi:TI} {cs:List AV} {l:List Nat} {r:AV} (ho:o.op = .fieldAddr t p f) (ht:TiOk P t ti) (hk:ti.k = .strct fs) (hf:fs[f]?=some (ft,off)) (hft:TiOk P ft fi) (hn:(fi.n == 0)=false)
  (hp:CA s.σ (s.ev p) cs l) (hr:fldA off (s.ev p)=some r):OpLoc P N o s ⟨r,[],l⟩:=by
 refine oploc_val l _ fun s' W F μ a h1 h2 hs=>?_
 have ep:=hs.ev p
 rw [h1 p (by rw [ho];simp [Op.operands])] at ep
 obtain ⟨b,o',hv,_⟩:=(hp.congr h2).cells hs.inv ep
 refine ⟨_,?_,ptr_add ep hr hv⟩
 obtain ⟨fs',hu,hm⟩:=ht.strct hk
 obtain ⟨fd,hfd,h3,h4⟩:∃fd,fs'[f]?=some fd/\fd.type=ft/\fd.offset=off:=by
  rw [<- hm,List.getElem?_map] at hf
  cases hq:fs'.toList[f]? with
  | none=>rw [hq] at hf;cases hf
  | some fd =>
   rw [hq] at hf
   simp only [Option.map_some,Option.some.injEq,Prod.mk.injEq] at hf
   exact ⟨fd,by simpa using hq,hf⟩
 have hn':¬fi.n=0:=by simpa using hn
 have hz:(sizeOf fd.type).run P W = .ok fi.n W:=by rw [h3];exact hft.size W
 simp only [execOp,ho,Instr.fieldAt,Sem.run_bind,run_underlying hu,Result.andThen_ok,hfd,hv,Instr.sureAddr,Sem.run_pure,fieldPlace,hz,hn',if_false,h4]
theorem op_indexA {t n e k:Nat} {ti ei:TI} {x i:Operand} {kd:IntKind} {cs:List AV} {l:List Nat} {r:AV} (ho:o.op = .indexAddr t x i) (ht:TiOk P t ti) (hk:ti.k = .arr n e) (he:TiOk P e ei) (hi:s.ev i = .i kd (k:Int)) (hlt:k<n)
  (hp:CA s.σ (s.ev x) cs l) (hr:fldA (k*ei.n) (s.ev x)=some r):OpLoc P N o s ⟨r,[],l⟩:=by
 refine oploc_val l _ fun s' W F μ a h1 h2 hs=>?_
 have ep:=hs.ev x
 rw [h1 x (by rw [ho];simp [Op.operands])] at ep
 have ei':=hs.ev i
 rw [h1 i (by rw [ho];simp [Op.operands]),hi] at ei'
 obtain ⟨b,o',hv,_⟩:=(hp.congr h2).cells hs.inv ep
 refine ⟨_,?_,ptr_add ep hr hv⟩
 have hcond:(0:Int)<=(k:Int)/\(k:Int)<(n:Int):=by omega
 simp only [execOp,ho,Instr.indexAt,hv,ei'.i',asIntOf,Sem.run_bind,Sem.run_pure,Result.andThen_ok,run_underlying (ht.array hk),Instr.sureAddr,if_pos hcond,he.size,Int.toNat_natCast]
def prtA (ti:TI) (off:Nat) (cs:List AV):Option AV:=cond ti.k.ag (cond (Nat.ble (off+ti.n) cs.length) (some (.agg ((cs.drop off).take ti.n))) none) cs[off]?
theorem part_ok {t:Nat} {ti:TI} (ht:TiOk P t ti) {W:World} {F:Nat->Prop} {μ:Mu} {σ:Sto} {cs:List AV} {vs:List Value} (hl:vs.length=cs.length) (h1:∀(j:Nat) (x:AV),cs[j]?=some x->x.one=true)
  (hp:∀(j:Nat) (x:AV) (v:Value),cs[j]?=some x->vs[j]?=some v->Rel W F μ σ x v) {off:Nat} {r:AV} (hr:prtA ti off cs=some r):∃v,(part t vs.toArray off).run P W = .ok v W/\Rel W F μ σ r v:=by
 unfold prtA at hr
 cases hag:ti.k.ag with
 | true =>
  rw [hag,cond_true] at hr
  cases hle:Nat.ble (off+ti.n) cs.length with
  | false=>rw [hle] at hr;cases hr
  | true =>
   have hn:off+ti.n<=cs.length:=Nat.le_of_ble_eq_true hle
   rw [hle,cond_true] at hr
   obtain rfl:=Option.some.inj hr
   have he:vs.toArray.extract off (off+ti.n)=((vs.drop off).take ti.n).toArray:=by
    apply Array.toList_inj.1
    simp
   refine ⟨.agg ((vs.drop off).take ti.n).toArray,?_,.agg _ _ (by simp [hl]) (fun j x hj=>?_) (fun j x v hj hv=>?_)⟩
   ·simp only [part,Sem.run_bind,ht.agg,hag,Result.andThen_ok,if_true,ht.size,Sem.run_pure,he]
   ·rw [List.getElem?_take,List.getElem?_drop] at hj
    split at hj
    ·exact h1 _ _ hj
    ·cases hj
   ·rw [List.getElem?_take,List.getElem?_drop] at hj hv
    split at hj
    ·rename_i hlt
     rw [if_pos hlt] at hv
     exact hp _ _ _ hj hv
    ·cases hj
 | false =>
  rw [hag,cond_false] at hr
  obtain ⟨v,hv⟩:∃v,vs[off]?=some v:=⟨_,List.getElem?_eq_getElem (by have:=(List.getElem?_eq_some_iff.1 hr).1;omega)⟩
  refine ⟨v,?_,hp _ _ _ hr hv⟩
  simp only [part,Sem.run_bind,ht.agg,hag,Result.andThen_ok,Bool.false_eq_true,if_false,List.getElem?_toArray,hv,Sem.run_pure]
theorem op_field {t f:Nat} {ti:TI} {fs:List (Nat × Nat)} {x:Operand} {ft off:Nat} {fi:TI} {cs:List AV} {r:AV} (ho:o.op = .field t x f) (ht:TiOk P t ti) (hk:ti.k = .strct fs) (hf:fs[f]?=some (ft,off)) (hft:TiOk P ft fi)
  (hx:s.ev x = .agg cs) (hr:prtA fi off cs=some r):OpLoc P N o s ⟨r,[],[]⟩:=by
 refine oploc_val [] _ fun s' W F μ a h1 h2 hs=>?_
 have ex:=hs.ev x
 rw [h1 x (by rw [ho];simp [Op.operands]),hx] at ex
 obtain ⟨vs,hv,hl,g1,g2⟩:=ex.agg'
 obtain ⟨v,hrun,hrel⟩:=part_ok hft (W:=W) hl g1 g2 hr
 obtain ⟨fs',hu,hm⟩:=ht.strct hk
 obtain ⟨fd,hfd,h3,h4⟩:∃fd,fs'[f]?=some fd/\fd.type=ft/\fd.offset=off:=by
  rw [<- hm,List.getElem?_map] at hf
  cases hq:fs'.toList[f]? with
  | none=>rw [hq] at hf;cases hf
  | some fd =>
   rw [hq] at hf
   simp only [Option.map_some,Option.some.injEq,Prod.mk.injEq] at hf
   exact ⟨fd,by simpa using hq,hf⟩
 refine ⟨v,?_,hrel⟩
 rw [<- h3,<- h4] at hrun
 simp only [execOp,ho,Instr.field,Sem.run_bind,run_underlying hu,Result.andThen_ok,hfd,hv,asAgg,Sem.run_pure,hrun]
theorem oploc_new {id : Nat} {bd : Body} {r : AV} (rd : List Nat) (h : ∀ (s' : St) W F μ a, (∀ y ∈ o.op.operands.toList, s'.ev y = s.ev y) -> (∀ i ∈ rd, s'.σ i = s.σ i) -> s'.σ id = s.σ id -> RS N W F μ s' a ->
   ∃(v:Value) (cs:List Value) (t c:Nat),(execOp a.eval o).run P W = .ok (.value v) (W.alloc (.cells cs.toArray t)) /\
    ∀μ' σ',Stp W F μ s'.σ (W.alloc (.cells cs.toArray t)) F μ' σ'->σ' id=⟨(s.σ id).ep+1,some bd⟩->μ' id=some (W.heap.size,c) ->
     BodyRel (W.alloc (.cells cs.toArray t)) F μ' σ' (some (W.heap.size,c)) bd/\Rel (W.alloc (.cells cs.toArray t)) F μ' σ' r v) :
  OpLoc P N o s ⟨r,[(id,⟨(s.σ id).ep+1,some bd⟩)],rd⟩:=by
 intro s' h1 h2 h3 W F μ a hr K Q hK
 have hid:s'.σ id=s.σ id:=h3 (id,⟨(s.σ id).ep+1,some bd⟩) (by simp)
 obtain ⟨v,cs,t,c,hrun,hgo⟩:=h s' W F μ a h1 h2 hid hr
 have hk:Kp (fun b=>(s'.σ id).body.isSome=true/\∃c,μ id=some (b,c)) W (W.alloc (.cells cs.toArray t)):=(Kp.refl _ W).alloc _
 have hσ:up1 s'.σ id ⟨(s.σ id).ep+1,some bd⟩ id=⟨(s.σ id).ep+1,some bd⟩:=by rw [up1_eq,if_pos rfl]
 have hμ:upm μ id (some (W.heap.size,c)) id=some (W.heap.size,c):=by rw [upm_eq,if_pos rfl]
 obtain ⟨hs,hi⟩:=inv_turn hr.inv id (some (W.heap.size,c)) ((s.σ id).ep+1) bd hk (fun b c' e=>by
   have e':W.heap.size=b:=by simp only [Option.some.injEq,Prod.mk.injEq] at e;exact e.1
   subst e'
   exact ⟨by simp,.inl (Nat.le_refl _)⟩) (.inl (by rw [hid];omega)) (fun hs=>(hgo _ _ hs hσ hμ).1)
 unfold Oper.wp
 rw [hrun]
 exact hK _ F _ _ (hr.put hs hi (hgo _ _ hs hσ hμ).2) hs
theorem run_newRow' (t:Nat) (cs:Array Value) (W:World):(newRow t cs).run P W = .ok ⟨W.heap.size,0,none⟩ (W.alloc (.cells cs t)):=rfl
theorem op_box {t : Nat} {x : Operand} {cs : List AV} {id : Nat} (ho : o.op = .box t x) (hx : (s.ev x).cells = cs) (h1 : cs.all AV.one = true) :
    OpLoc P N o s ⟨.own id ((s.σ id).ep+1) 0,[(id,⟨(s.σ id).ep+1,some (.box t cs)⟩)],[]⟩:=by
  refine oploc_new [] fun s' W F μ a g1 g2 hid hs=>?_
  have ex:=hs.ev x
  rw [g1 x (by rw [ho];simp [Op.operands])] at ex
  rw [List.all_eq_true] at h1
  obtain ⟨hl,hp⟩:=cells_rel ex (by rw [hx];exact h1)
  rw [hx] at hl hp
  refine ⟨.pointer (some ⟨W.heap.size,0,none⟩),(a.eval x).cells.toList,t,0,?_,fun μ' σ' hst hσ hμ=>⟨⟨W.heap.size,0,_,rfl,heap_alloc_new W _,hl,fun j y v hj hv=>⟨(hp j y v hj hv).1,(hp j y v hj hv).2.stp hs.inv hst⟩⟩,?_⟩⟩
  · have e:(a.eval x).cells.toList.toArray=(a.eval x).cells:=by simp
    simp only [execOp,ho,Instr.box,newVar,Sem.run_bind,run_newRow',Result.andThen_ok,Sem.run_pure,e]
  · exact .own id _ 0 _ (by rw [hσ];exact Nat.le_refl _) rfl fun bd hbd=>⟨W.heap.size,0,hμ,rfl⟩
theorem op_alloc {t:Nat} {ti:TI} {id:Nat} (ho:o.op = .alloc t) (ht:TiOk P t ti):OpLoc P N o s ⟨.own id ((s.σ id).ep+1) 0,[(id,⟨(s.σ id).ep+1,some (.box t ti.z)⟩)],[]⟩:=by
  refine oploc_new [] fun s' W F μ a g1 g2 hid hs=>?_
  obtain ⟨z,hz,hzs⟩:=ht.zero W
  refine ⟨.pointer (some ⟨W.heap.size,0,none⟩),z.cells.toList,t,0,?_,fun μ' σ' hst hσ hμ=>⟨⟨W.heap.size,0,_,rfl,heap_alloc_new W _,(zsOk_rel (W:=W) (F:=F) hzs).1,fun j y v hj hv=>?_⟩,?_⟩⟩
  · have e:z.cells.toList.toArray=z.cells:=by simp
    simp only [execOp,ho,Instr.alloc,hz,newVar,Sem.run_bind,run_newRow',Result.andThen_ok,Sem.run_pure,e]
  · have:=(zsOk_rel (W:=W.alloc (.cells z.cells.toList.toArray t)) (F:=F) hzs).2 j y v hj hv
    exact ⟨this.2,.pure this.1⟩
  · exact .own id _ 0 _ (by rw [hσ];exact Nat.le_refl _) rfl fun bd hbd=>⟨W.heap.size,0,hμ,rfl⟩
end
end Go.Proofs.YthgbdoofchknhaaGreatDoor.Sm
end
section
namespace Go.Proofs.YthgbdoofchknhaaGreatDoor.Sm
open Go.RowKit
def AV.pu1:AV->Bool
 | .b _ | .i _ _ | .u _ | .y _ | .s _ | .raw _ | .sl _ | .ro _=>true
 | _=>false
theorem pu1_rel {W:World} {F:Nat->Prop} {μ:Mu} {σ:Sto} {x:AV} {v:Value} (h:x.pu1=true) (hx:Rel W F μ σ x v):PRel W F x v:=by
 cases hx with
 | pure h=>exact h
 | _=>simp [AV.pu1] at h
section
variable {P : Program} {N : Nat} {o : Oper} {s : St}
theorem storeVar_run {t:Nat} {ti:TI} (ht:TiOk P t ti) {b off ty:Nat} {cur:Array Value} {v:Value} {W:World} (hh:W.heap[b]?=some (.cells cur ty (0,0))) (hn:v.cells.size=ti.n) (hfit:off+ti.n<=cur.size) (h1:∀u∈v.cells.toList,u.oneCell'=true) :
  (storeVar t ⟨b,off,none⟩ v).run P W = .ok () (W.setRow b (cur.toList.take off++v.cells.toList++cur.toList.drop (off+ti.n)).toArray):=by
 have h:=run_storeCells_at P b off ty v.cells.toList 0 cur W hh (by simp only [Nat.add_zero,Array.length_toList,hn];exact hfit) h1
 simp only [Nat.add_zero,Array.length_toList,hn] at h
 simp only [storeVar,Sem.run_bind,ht.size,Result.andThen_ok,hn,ne_eq,not_true_eq_false,if_false,h]
theorem op_store {t ty id ep off : Nat} {ti : TI} {p x : Operand} {cs ns : List AV} (ho : o.op = .store t p x) (ht : TiOk P t ti) (hp : s.ev p = .own id ep off) (hid : s.σ id = ⟨ep, some (.box ty cs)⟩) (hx : (s.ev x).cells = ns) (h1 : ns.all AV.one = true)
    (hn:ns.length=ti.n) (hfit:off+ti.n<=cs.length):OpLoc P N o s ⟨.tup [],[(id,⟨ep,some (.box ty (ovw cs off ns))⟩)],[]⟩:=by
  intro s' g1 g2 g3 W F μ a hr K Q hK
  have hid':s'.σ id=⟨ep,some (.box ty cs)⟩:=(g3 (id,⟨ep,some (.box ty (ovw cs off ns))⟩) (by simp)).trans hid
  have ep':=hr.ev p
  rw [g1 p (by rw [ho];simp [Op.operands]),hp] at ep'
  obtain ⟨_,_,hv⟩:=Rel.own' ep'
  obtain ⟨b,c,hm,hv⟩:=hv _ hid'
  obtain ⟨b',c',vs,hm',hh,hl,hrel⟩:=hr.inv.body _ _ _ hid'
  obtain ⟨rfl,rfl⟩:b=b'/\c=c':=by rw [hm] at hm';simpa using hm'
  have ex:=hr.ev x
  rw [g1 x (by rw [ho];simp [Op.operands])] at ex
  rw [List.all_eq_true] at h1
  obtain ⟨hxl,hxp⟩:=cells_rel ex (by rw [hx];exact h1)
  rw [hx] at hxl hxp
  have hsz:(a.eval x).cells.size=ti.n:=by rw [<- Array.length_toList,hxl,hn]
  have hone:∀u∈(a.eval x).cells.toList,u.oneCell'=true:=fun u hu=>by
    obtain ⟨j,hj⟩:=List.getElem?_of_mem hu
    obtain ⟨y,hy⟩:∃y,ns[j]?=some y:=⟨_,List.getElem?_eq_getElem (by have:=(List.getElem?_eq_some_iff.1 hj).1;omega)⟩
    have:=hxp j y u hy hj
    exact this.2.one this.1
  have hrun:=storeVar_run ht (P:=P) hh hsz (by simp only [List.size_toArray];omega) hone (off:=off)
  generalize hnew:(vs.toArray.toList.take off++(a.eval x).cells.toList++vs.toArray.toList.drop (off+ti.n))=new at hrun
  have hnl:new.length=cs.length:=by
    rw [<- hnew]
    simp only [List.length_append,List.length_take,List.length_drop,hxl,hn,hl]
    omega
  have hget:∀j,new[j]?=if off<=j/\j<off+ns.length then (a.eval x).cells.toList[j - off]? else vs[j]?:=fun j=>by
    rw [<- hnew,hn]
    simp only [List.append_assoc]
    rw [List.getElem?_append,List.length_take,hl,Nat.min_eq_left (by omega)]
    by_cases e1:j<off
    · rw [if_pos e1,if_neg (by omega),List.getElem?_take,if_pos e1]
    · rw [if_neg e1,List.getElem?_append,hxl,hn]
      by_cases e2:j - off<ti.n
      · rw [if_pos e2,if_pos (by omega)]
      · rw [if_neg e2,if_neg (by omega),List.getElem?_drop]
        congr 1
        omega
  have hk:Kp (fun b=>(s'.σ id).body.isSome=true/\∃c,μ id=some (b,c)) W (W.setRow b new.toArray):=(Kp.refl _ W).setRow' (by exact ⟨by rw [hid'];rfl,c,hm⟩) _
  obtain ⟨hs, hi⟩ := inv_turn hr.inv id (μ id) ep (.box ty (ovw cs off ns)) hk (fun b1 c1 e => by
      rw [hm] at e
      obtain ⟨rfl,rfl⟩:b=b1/\c=c1:=by simpa using e
      exact ⟨by simpa using (hr.inv.apart b ⟨id,ep,_,c,hid',hm⟩).1,.inr ⟨by rw [hid'];rfl,c,hm⟩⟩)
    (.inr ⟨by rw [hid'],_,by rw [hid'],by simp [Body.sh,ovw_length],rfl⟩) (fun hs=>by
      refine ⟨b,c,new,hm,setRow_heap W b _ _ _ _ hh,by rw [ovw_length];exact hnl,fun j y v hj hv'=>?_⟩
      rw [ovw_get _ _ _ _ (by omega)] at hj
      rw [hget] at hv'
      split at hj
      · rename_i e
        rw [if_pos e] at hv'
        have:=hxp _ _ _ hj hv'
        exact ⟨this.1,this.2.stp hr.inv hs⟩
      · rename_i e
        rw [if_neg e] at hv'
        have:=hrel _ _ _ hj hv'
        exact ⟨this.1,this.2.stp hr.inv hs⟩)
  unfold Oper.wp
  have hrun':(execOp a.eval o).run P W = .ok .skip (W.setRow b new.toArray):=by
    simp only [execOp,ho,Instr.storeAt,Instr.sureAddr,hv,Sem.run_bind,Sem.run_pure,Result.andThen_ok,hrun]
  rw [hrun']
  exact hK _ F _ _ (hr.put hs hi (.pure (.tup [] [] rfl (by simp)))) hs
theorem sl_form {W:World} {F:Nat->Prop} {els:List (List AV)} {v:Value} (h:PRel W F (.sl els) v):∃A c,v = .slice A els.length c/\els.length<=c/\c<=maxLen:=by
 cases h with
 | sl _ A c m b off cell hc hm _ _ _ _ _=>exact ⟨A,c,rfl,hc,hm⟩
theorem row_form {W:World} {F:Nat->Prop} {μ:Mu} {σ:Sto} (hi:Inv W F μ σ) {id ep off n t m:Nat} {els:List (List AV)} {v:Value} (h:Rel W F μ σ (.row id ep off n) v) (hid:σ id=⟨ep,some (.row t m els)⟩) :
  off+n<=els.length/\((v = .slice none 0 0/\els=[]/\μ id=none)\/∃b cap,μ id=some (b,cap)/\v = .slice (some ⟨b,off*m,none⟩) n (cap - off)/\els.length<=cap/\cap<=maxLen):=by
 obtain ⟨_,_,hv⟩:=Rel.row' h
 obtain ⟨h1,h2⟩:=hv _ _ _ hid
 refine ⟨h1,?_⟩
 rcases hi.body _ _ _ hid with ⟨hn,rfl⟩ | ⟨b,cap,cur,hp,hh,q1,q2,_⟩
 ·rw [hn] at h2
  exact .inl ⟨h2,rfl,hn⟩
 ·rw [hp] at h2
  exact .inr ⟨b,cap,hp,h2,q1,q2⟩
theorem op_mm {c : Call} {x y : Operand} {t u : Nat} {k k' : IntKind} {m n : Int} {b : Builtin} {r : Int} (ho : o.op = .call c) (hc : c.callee = .builtin b) (ha : c.args = #[x, y]) (hat : c.argTypes = #[t, u]) (hx : s.ev x = .i k m) (hy : s.ev y = .i k' n)
    (hb:(b = .max/\r=max m n)\/(b = .min/\r=min m n)):OpLoc P N o s ⟨.i k r,[],[]⟩:=by
  refine oploc_val [] _ fun s' W F μ a g1 g2 hs=>⟨.int k r,?_,.pure (.i k r)⟩
  have opers:o.op.operands.toList=[x,y]:=by rw [ho];simp [Op.operands,Call.operands,hc,ha]
  have ex:=hs.ev x
  rw [g1 x (by rw [opers];simp),hx] at ex
  have ey:=hs.ev y
  rw [g1 y (by rw [opers];simp),hy] at ey
  rcases hb with ⟨rfl,rfl⟩ | ⟨rfl,rfl⟩
  · have e:(if n>m then n else m)=max m n:=by split <;> omega
    simp only [execOp,ho,resolve,hc,ha,hat,List.map_toArray,List.map_cons,List.map_nil,Sem.run_bind,Sem.run_pure,Result.andThen_ok,invoke,builtin,ex.i',ey.i',run_max_int2,e]
  · have e:(if n<m then n else m)=min m n:=by split <;> omega
    simp only [execOp,ho,resolve,hc,ha,hat,List.map_toArray,List.map_cons,List.map_nil,Sem.run_bind,Sem.run_pure,Result.andThen_ok,invoke,builtin,ex.i',ey.i',run_min_int2,e]
theorem op_lenX {c:Call} {x:Operand} {t e:Nat} {ti:TI} {n:Nat} (ho:o.op = .call c) (hc:c.callee = .builtin .len) (ha:c.args = #[x]) (hat:c.argTypes = #[t]) (ht:TiOk P t ti) (hk:ti.k = .slice e) (rd:List Nat)
  (hx:∀(s':St) W F μ v,(∀id∈rd,s'.σ id=s.σ id)->Inv W F μ s'.σ->Rel W F μ s'.σ (s.ev x) v->∃A k,v = .slice A n k):OpLoc P N o s ⟨.i .i64 n,[],rd⟩:=by
 refine oploc_val rd _ fun s' W F μ a h1 h2 hs=>⟨.int .i64 n,?_,.pure (.i _ _)⟩
 have ex:=hs.ev x
 rw [h1 x (by rw [ho];simp [Op.operands,Call.operands,hc,ha])] at ex
 obtain ⟨A,k,hv⟩:=hx s' W F μ _ h2 hs.inv ex
 simp only [execOp,ho,resolve,hc,ha,hat,List.map_toArray,List.map_cons,List.map_nil,Sem.run_bind,Sem.run_pure,Result.andThen_ok,invoke,builtin,Builtin.len_,hv,List.getElem?_toArray,List.getElem?_cons_zero,run_underlying (ht.slice hk),goInt]
theorem op_len {c:Call} {x:Operand} {t e:Nat} {ti:TI} {els:List (List AV)} (ho:o.op = .call c) (hc:c.callee = .builtin .len) (ha:c.args = #[x]) (hat:c.argTypes = #[t]) (ht:TiOk P t ti) (hk:ti.k = .slice e) (hx:s.ev x = .sl els):OpLoc P N o s ⟨.i .i64 els.length,[],[]⟩ :=
 op_lenX ho hc ha hat ht hk [] fun s' W F μ v _ _ hv=>by
  rw [hx] at hv
  obtain ⟨A,k,e,_⟩:=sl_form hv.sl'
  exact ⟨A,k,e⟩
theorem op_lenR {c:Call} {x:Operand} {t e id ep off n ty m:Nat} {els:List (List AV)} {ti:TI} (ho:o.op = .call c) (hc:c.callee = .builtin .len) (ha:c.args = #[x]) (hat:c.argTypes = #[t]) (ht:TiOk P t ti) (hk:ti.k = .slice e) (hx:s.ev x = .row id ep off n) (hid:s.σ id=⟨ep,some (.row ty m els)⟩):OpLoc P N o s ⟨.i .i64 n,[],[id]⟩ :=
  op_lenX ho hc ha hat ht hk [id] fun s' W F μ v hσ hi hv=>by
    rw [hx] at hv
    obtain ⟨h1,⟨rfl,rfl,_⟩ | ⟨b,cap,_,e,_⟩⟩:=row_form hi hv ((hσ id (by simp)).trans hid)
    · obtain rfl:n=0:=by simp at h1;omega
      exact ⟨_,_,rfl⟩
    · exact ⟨_,_,e⟩
theorem op_lenN {c:Call} {x:Operand} {t e:Nat} {ti:TI} (ho:o.op = .call c) (hc:c.callee = .builtin .len) (ha:c.args = #[x]) (hat:c.argTypes = #[t]) (ht:TiOk P t ti) (hk:ti.k = .slice e) (hx:s.ev x = .raw (.slice none 0 0)):OpLoc P N o s ⟨.i .i64 ((0:Nat):Int),[],[]⟩ :=
 op_lenX ho hc ha hat ht hk [] fun s' W F μ v _ _ hv=>by
  rw [hx] at hv
  exact ⟨_,_,hv.raw'⟩
theorem op_lenS {c:Call} {x:Operand} {t:Nat} {ti:TI} {l:List UInt8} (ho:o.op = .call c) (hc:c.callee = .builtin .len) (ha:c.args = #[x]) (hat:c.argTypes = #[t]) (ht:TiOk P t ti) (hk:ti.k = .str) (hx:s.ev x = .s l):OpLoc P N o s ⟨.i .i64 l.length,[],[]⟩:=by
 refine oploc_val [] _ fun s' W F μ a h1 h2 hs=>⟨.int .i64 l.length,?_,.pure (.i _ _)⟩
 have ex:=hs.ev x
 rw [h1 x (by rw [ho];simp [Op.operands,Call.operands,hc,ha]),hx] at ex
 simp only [execOp,ho,resolve,hc,ha,hat,List.map_toArray,List.map_cons,List.map_nil,Sem.run_bind,Sem.run_pure,Result.andThen_ok,invoke,builtin,Builtin.len_,ex.s',List.getElem?_toArray,List.getElem?_cons_zero,run_underlying (ht.str hk),goInt]
 rfl
theorem op_index {t e k:Nat} {ti ei:TI} {x i:Operand} {kd:IntKind} {els:List (List AV)} {cs:List AV} (ho:o.op = .indexAddr t x i) (ht:TiOk P t ti) (hk:ti.k = .slice e) (he:TiOk P e ei) (hx:s.ev x = .sl els) (hi:s.ev i = .i kd (k:Int)) (hcs:els[k]?=some cs)
  (hn:cs.length=ei.n):OpLoc P N o s ⟨.ro cs,[],[]⟩:=by
 refine oploc_val [] _ fun s' W F μ a h1 h2 hs=>?_
 have ex:=hs.ev x
 rw [h1 x (by rw [ho];simp [Op.operands]),hx] at ex
 have ei':=hs.ev i
 rw [h1 i (by rw [ho];simp [Op.operands]),hi] at ei'
 have hlt:k<els.length:=(List.getElem?_eq_some_iff.1 hcs).1
 generalize hq:a.eval x=q at ex
 cases ex.sl' with
 | sl _ A c m b off cell hc hm hA hl hone hr hw =>
  obtain ⟨rfl,hF,hb⟩:=hA (by omega)
  have hm':=hl k cs hcs
  refine ⟨.pointer (some ⟨b,off+k*m,none⟩),?_,.pure (.ro cs b (off+k*m) (cell k) hF hb (fun j x hj=>hone k cs j x hcs hj) (fun j x hj=>hr k cs j x hcs hj) (fun j x hj=>by rw [Nat.add_assoc];exact hw k cs j x hcs hj))⟩
  have hcond:(0:Int)<=(k:Int)/\(k:Int)<(els.length:Int):=by omega
  simp only [execOp,ho,Instr.indexAt,hq,ei'.i',asIntOf,Sem.run_bind,Sem.run_pure,Result.andThen_ok,run_underlying (ht.slice hk),if_pos hcond,he.size,Int.toNat_natCast,ca_ptr (W:=W),<- hn,hm']
theorem op_indexS {t k:Nat} {ti:TI} {x i:Operand} {kd:IntKind} {l:List UInt8} {c:UInt8} (ho:o.op = .index t x i) (ht:TiOk P t ti) (hk:ti.k = .str) (hx:s.ev x = .s l) (hi:s.ev i = .i kd (k:Int)) (hc:l[k]?=some c):OpLoc P N o s ⟨.y c,[],[]⟩:=by
 refine oploc_val [] _ fun s' W F μ a h1 h2 hs=>⟨.int .u8 c.toNat,?_,.pure (.y c)⟩
 have ex:=hs.ev x
 rw [h1 x (by rw [ho];simp [Op.operands]),hx] at ex
 have ei':=hs.ev i
 rw [h1 i (by rw [ho];simp [Op.operands]),hi] at ei'
 have hb:(⟨l.toArray⟩:ByteArray)[k]?=some c:=by
  obtain ⟨hlt,e⟩:=List.getElem?_eq_some_iff.1 hc
  rw [getElem?_pos (⟨l.toArray⟩:ByteArray) k (by simpa [ByteArray.size] using hlt)]
  exact congrArg some e
 have h0:(0:Int)<=(k:Int):=by omega
 simp only [execOp,ho,Instr.index,ex.s',ei'.i',asIntOf,Sem.run_bind,Sem.run_pure,Result.andThen_ok,run_underlying (ht.str hk),h0,if_true,Int.toNat_natCast,hb]
end
end Go.Proofs.YthgbdoofchknhaaGreatDoor.Sm
end
section
namespace Go.Proofs.YthgbdoofchknhaaGreatDoor.Sm
open Go.RowKit
section
variable {P : Program} {N : Nat} {o : Oper} {s : St}
inductive Bd (s:St) (d:Nat):Option Operand->Nat->Prop where
 | no:Bd s d none d
 | at_ {x:Operand} {kd:IntKind} {k:Nat} (h:s.ev x = .i kd (k:Int)):Bd s d (some x) k
theorem bd_run {s s':St} {d n:Nat} {x:Option Operand} (h:Bd s d x n) (hs:∀y,x=some y->s'.ev y=s.ev y) {W:World} {F:Nat->Prop} {μ:Mu} {a:Act} (hr:RS N W F μ s' a) :
  (x=none/\n=d)\/∃y kd,x=some y/\a.eval y = .int kd (n:Int):=by
 cases h with
 | no=>exact .inl ⟨rfl,rfl⟩
 | @at_ y kd k h =>
  have:=hr.ev y
  rw [hs y rfl,h] at this
  exact .inr ⟨y,kd,rfl,this.i'⟩
theorem sliceBounds_run {W:World} {l h c:Nat} {lo hi:Option Value} (hlo:(lo=none/\l=0)\/∃kd,lo=some (.int kd (l:Int))) {len:Nat} (hhi:(hi=none/\h=len)\/∃kd,hi=some (.int kd (h:Int))) (h1:l<=h) (h2:h<=c) (b:Bool) :
  (Instr.sliceBounds b len c lo hi none).run P W = .ok (l,h,c) W:=by
 have e1:(0:Int)<=(l:Int)/\(l:Int)<=(h:Int):=by omega
 have e2:(0:Int)<=(h:Int)/\(h:Int)<=(c:Int):=by omega
 rcases hlo with ⟨rfl,rfl⟩ | ⟨kd,rfl⟩ <;> rcases hhi with ⟨rfl,rfl⟩ | ⟨kd',rfl⟩
 ·simp only [Instr.sliceBounds,Sem.run_bind,Sem.run_pure,Result.andThen_ok]
 ·simp only [Instr.sliceBounds,Instr.sliceBound,asIntOf,Sem.run_bind,Sem.run_pure,Result.andThen_ok,if_pos e2,Int.toNat_natCast]
 ·simp only [Instr.sliceBounds,Instr.sliceBound,asIntOf,Sem.run_bind,Sem.run_pure,Result.andThen_ok,if_pos e1,Int.toNat_natCast]
 ·simp only [Instr.sliceBounds,Instr.sliceBound,asIntOf,Sem.run_bind,Sem.run_pure,Result.andThen_ok,if_pos e1,if_pos e2,Int.toNat_natCast]
theorem sl_part {W : World} {F : Nat -> Prop} {els : List (List AV)} {A : Option Addr} {c l h m : Nat} (hr : PRel W F (.sl els) (.slice A els.length c)) (h1 : l <= h) (h2 : h <= els.length) (hm : ∀ cs ∈ els, cs.length = m) :
    PRel W F (.sl ((els.drop l).take (h - l))) (.slice (if c=l then A else A.map (·.add (l*m))) (h - l) (c - l)):=by
  generalize hq:Value.slice A els.length c=q at hr
  cases hr with
  | sl _ A' c' m' b off cell hc hmx hA hl hone hrl hw =>
    obtain ⟨rfl,rfl⟩:A=A'/\c=c':=by simpa using hq
    have hlen:((els.drop l).take (h - l)).length=h - l:=by rw [List.length_take,List.length_drop];omega
    have hget:∀(k:Nat) (cs:List AV),((els.drop l).take (h - l))[k]?=some cs->els[l+k]?=some cs:=fun k cs hk=>by
      rw [List.getElem?_take,List.getElem?_drop] at hk
      split at hk
      · exact hk
      · cases hk
    have key := PRel.sl (W := W) (F := F) ((els.drop l).take (h - l)) (if c = l then A else A.map (·.add (l * m))) (c - l) m b (off + l * m) (fun k j => cell (l + k) j) (by omega) (by omega) (fun hp => by
        obtain ⟨e,h3,h4⟩:=hA (by omega)
        refine ⟨?_,h3,h4⟩
        rw [if_neg (by omega),e,Option.map_some,ca_ptr (W:=W)]) (fun k cs hk=>hm cs (List.mem_of_getElem? (hget k cs hk))) (fun k cs j x hk hj=>hone _ cs j x (hget k cs hk) hj) (fun k cs j x hk hj=>hrl _ cs j x (hget k cs hk) hj)
        (fun k cs j x hk hj=>by
          have hmm:m'=m:=by rw [<- hl _ cs (hget k cs hk)];exact hm cs (List.mem_of_getElem? (hget k cs hk))
          have:=hw _ cs j x (hget k cs hk) hj
          rw [hmm] at this
          rw [show off+l*m+(k*m+j)=off+((l+k)*m+j) by rw [Nat.add_mul];omega]
          exact this)
    rw [hlen] at key
    exact key
theorem op_slice {t e l h : Nat} {ti ei : TI} {x : Operand} {lo hi : Option Operand} {els : List (List AV)} (ho : o.op = .slice t x lo hi none) (ht : TiOk P t ti) (hk : ti.k = .slice e) (he : TiOk P e ei) (hx : s.ev x = .sl els)
    (hlo:Bd s 0 lo l) (hhi:Bd s els.length hi h) (h1:l<=h) (h2:h<=els.length) (hm:∀cs∈els,cs.length=ei.n):OpLoc P N o s ⟨.sl ((els.drop l).take (h - l)),[],[]⟩:=by
  refine oploc_val [] _ fun s' W F μ a g1 g2 hs=>?_
  have ex:=hs.ev x
  rw [g1 x (by rw [ho];simp [Op.operands]),hx] at ex
  obtain ⟨A,c,hv,hc,hcm⟩:=sl_form ex.sl'
  have exs:=ex.sl'
  rw [hv] at exs
  refine ⟨_,?_,.pure (sl_part exs h1 h2 hm)⟩
  have r1:=bd_run hlo (fun y hy=>g1 y (by rw [ho,hy];simp [Op.operands])) hs
  have r2:=bd_run hhi (fun y hy=>g1 y (by rw [ho,hy];simp [Op.operands])) hs
  have hrun:=sliceBounds_run (P:=P) (W:=W) (l:=l) (h:=h) (c:=c) (len:=els.length) (lo:=lo.map a.eval) (hi:=hi.map a.eval)
    (by rcases r1 with ⟨e, e'⟩ | ⟨y, kd, e, e'⟩
        · exact .inl ⟨by rw [e];rfl,e'⟩
        · exact .inr ⟨kd,by rw [e,Option.map_some,e']⟩)
    (by rcases r2 with ⟨e, e'⟩ | ⟨y, kd, e, e'⟩
        · exact .inl ⟨by rw [e];rfl,e'⟩
        · exact .inr ⟨kd,by rw [e,Option.map_some,e']⟩) h1 (by omega) true
  simp only [execOp,ho,Instr.sliceAt,Instr.slice,hv,Sem.run_bind,Sem.run_pure,Result.andThen_ok,run_underlying (ht.slice hk),Option.map_none,hrun,he.size]
theorem op_sliceS {t l h : Nat} {ti : TI} {x : Operand} {lo hi : Option Operand} {cs : List UInt8} (ho : o.op = .slice t x lo hi none) (ht : TiOk P t ti) (hk : ti.k = .str) (hx : s.ev x = .s cs)
    (hlo:Bd s 0 lo l) (hhi:Bd s cs.length hi h) (h1:l<=h) (h2:h<=cs.length):OpLoc P N o s ⟨.s ((cs.drop l).take (h - l)),[],[]⟩:=by
  refine oploc_val [] _ fun s' W F μ a g1 g2 hs=>?_
  have ex:=hs.ev x
  rw [g1 x (by rw [ho];simp [Op.operands]),hx] at ex
  refine ⟨_,?_,.pure (.s _)⟩
  have r1:=bd_run hlo (fun y hy=>g1 y (by rw [ho,hy];simp [Op.operands])) hs
  have r2:=bd_run hhi (fun y hy=>g1 y (by rw [ho,hy];simp [Op.operands])) hs
  have hrun:=sliceBounds_run (P:=P) (W:=W) (l:=l) (h:=h) (c:=cs.length) (len:=cs.length) (lo:=lo.map a.eval) (hi:=hi.map a.eval)
    (by rcases r1 with ⟨e, e'⟩ | ⟨y, kd, e, e'⟩
        · exact .inl ⟨by rw [e];rfl,e'⟩
        · exact .inr ⟨kd,by rw [e,Option.map_some,e']⟩)
    (by rcases r2 with ⟨e, e'⟩ | ⟨y, kd, e, e'⟩
        · exact .inl ⟨by rw [e];rfl,e'⟩
        · exact .inr ⟨kd,by rw [e,Option.map_some,e']⟩) h1 h2 false
  have hsz:(⟨cs.toArray⟩:ByteArray).size=cs.length:=by simp [ByteArray.size]
  have hex:(⟨cs.toArray⟩:ByteArray).extract l h=⟨((cs.drop l).take (h - l)).toArray⟩:=by
    apply ByteArray.ext
    rw [ByteArray.data_extract]
    apply Array.toList_inj.1
    simp
  simp only [execOp,ho,Instr.sliceAt,Instr.slice,ex.s',Sem.run_bind,Sem.run_pure,Result.andThen_ok,run_underlying (ht.str hk),Option.map_none,Option.isSome_none,Bool.false_eq_true,if_false,hsz,hrun,hex]
def ofI64 (n:Int):UInt64:=UInt64.ofNat (IntKind.u64.wrap n).toNat
def ofI8 (n:Int):UInt8:=UInt8.ofNat (IntKind.u8.wrap n).toNat
theorem ofI64_nat (n:Int):((ofI64 n).toNat:Int)=IntKind.u64.wrap n:=by
 unfold ofI64
 have h:0<=IntKind.u64.wrap n/\IntKind.u64.wrap n<18446744073709551616:=by rw [IntKind.wrap_u64];omega
 rw [UInt64.toNat_ofNat']
 omega
theorem ofI8_nat (n:Int):((ofI8 n).toNat:Int)=IntKind.u8.wrap n:=by
 unfold ofI8
 have h:0<=IntKind.u8.wrap n/\IntKind.u8.wrap n<256:=by rw [IntKind.wrap_u8'];omega
 rw [UInt8.toNat_ofNat']
 omega
def cvI (k:IntKind) (n:Int):AV :=
 match k with
 | .u64=>.u (ofI64 n)
 | .u8=>.y (ofI8 n)
 | k=>.i k (k.wrap n)
def cvA (k:IntKind):AV->Option AV
 | .i _ n=>some (cvI k n)
 | .u x=>match k with
  | .u64=>some (.u x)
  | .u8=>some (.y x.toUInt8)
  | k=>some (.i k (k.wrap x.toNat))
 | .y x=>match k with
  | .u64=>some (.u x.toUInt64)
  | .u8=>some (.y x)
  | k=>some (.i k (k.wrap x.toNat))
 | _=>none
theorem cvI_rel {W:World} {F:Nat->Prop} (k:IntKind) (n:Int):PRel W F (cvI k n) (.int k (k.wrap n)):=by
 cases k with
 | u64=>rw [<- ofI64_nat];exact .u _
 | u8=>rw [<- ofI8_nat];exact .y _
 | _=>exact .i _ _
theorem cvA_rel {W:World} {F:Nat->Prop} {μ:Mu} {σ:Sto} {k:IntKind} {x r:AV} {v:Value} (h:cvA k x=some r) (hx:Rel W F μ σ x v):∃k' n,v = .int k' n/\PRel W F r (.int k (k.wrap n)):=by
 cases x with
 | i k' n =>
  obtain rfl:=Option.some.inj h
  exact ⟨k',n,hx.i',cvI_rel k n⟩
 | u x =>
  refine ⟨.u64,x.toNat,hx.u',?_⟩
  cases k with
  | u64 =>
   obtain rfl:=Option.some.inj h
   rw [u64_wrap_self]
   exact .u x
  | u8 =>
   obtain rfl:=Option.some.inj h
   rw [u8_wrap]
   exact .y x.toUInt8
  | _=>obtain rfl:=Option.some.inj h;exact .i _ _
 | y x =>
  refine ⟨.u8,x.toNat,hx.y',?_⟩
  cases k with
  | u64 =>
   obtain rfl:=Option.some.inj h
   rw [u64_wrap_u8]
   exact .u x.toUInt64
  | u8 =>
   obtain rfl:=Option.some.inj h
   rw [u8_wrap,UInt8.ofNat_toNat]
   exact .y x
  | _=>obtain rfl:=Option.some.inj h;exact .i _ _
 | _=>simp [cvA] at h
theorem op_conv {t u:Nat} {ti ui:TI} {k:IntKind} {x:Operand} {r:AV} (ho:o.op = .convert t u x) (ht:TiOk P t ti) (hu:TiOk P u ui) (hk:ui.k = .int k) (h:cvA k (s.ev x)=some r):OpLoc P N o s ⟨r,[],[]⟩:=by
 refine oploc_val [] _ fun s' W F μ a g1 g2 hs=>?_
 have ex:=hs.ev x
 rw [g1 x (by rw [ho];simp [Op.operands])] at ex
 obtain ⟨k',n,hv,hr⟩:=cvA_rel h ex
 obtain ⟨_,d,_,_,hd,_⟩:=ht.h
 refine ⟨_,?_,.pure hr⟩
 simp only [execOp,ho,hv,convert,Sem.run_bind,Sem.run_pure,Result.andThen_ok,run_underlying hd,run_underlying (hu.int hk),Conv.intToInt]
def byteEls (l:List UInt8):List (List AV):=l.map fun c=>[.y c]
theorem op_str {t u e:Nat} {ti ui ei:TI} {x:Operand} {l:List UInt8} (ho:o.op = .convert t u x) (ht:TiOk P t ti) (hk:ti.k = .slice e) (he:TiOk P e ei) (hke:ei.k = .int .u8) (hu:TiOk P u ui) (hku:ui.k = .str) (hx:s.ev x = .sl (byteEls l)):OpLoc P N o s ⟨.s l,[],[]⟩:=by
 refine oploc_val [] _ fun s' W F μ a g1 g2 hs=>?_
 have ex:=hs.ev x
 rw [g1 x (by rw [ho];simp [Op.operands]),hx] at ex
 have hsl:SliceAt u8R W F l (a.eval x):=by
  generalize a.eval x=q at ex
  cases ex.sl' with
  | sl _ A c m b off cell hc hm hA hl hone hr hw =>
   have hlen:(byteEls l).length=l.length:=by simp [byteEls]
   rw [hlen] at hc hA ⊢
   refine ⟨A,c,rfl,hc,hm,fun hp=>?_⟩
   obtain ⟨rfl,hF,hb⟩:=hA hp
   have get:∀(j:Nat) (y:UInt8),l[j]?=some y->(byteEls l)[j]?=some [.y y]:=fun j y hj=>by simp [byteEls,hj]
   have m1:m=1:=by
    obtain ⟨y,hy⟩:∃y,l[0]?=some y:=⟨_,List.getElem?_eq_getElem hp⟩
    exact (hl 0 _ (get 0 y hy)).symm
   refine ⟨b,off,rfl,hF,hb,l.map (fun y=>.int .u8 y.toNat),?_,fun j u hu=>?_⟩
   ·clear hA hw hr hl hone get hc hs g1 g2 ex hx hlen
    induction l with
    | nil=>rfl
    | cons y l ih =>
     cases l with
     | nil=>exact ⟨_,[],rfl,rfl,rfl⟩
     | cons z l=>exact ⟨[.int .u8 y.toNat],_,rfl,rfl,ih (by simp)⟩
   ·rw [List.getElem?_map] at hu
    cases hy:l[j]? with
    | none=>rw [hy] at hu;cases hu
    | some y =>
     rw [hy] at hu
     obtain rfl:Value.int .u8 (y.toNat:Int)=u:=by simpa using hu
     have h1:=hw j _ 0 _ (get j y hy) rfl
     have h2:=hr j _ 0 _ (get j y hy) rfl
     rw [m1,Nat.mul_one,Nat.add_zero] at h1
     generalize cell j 0=q at h1 h2
     cases h2
     exact h1
 refine ⟨.string ⟨l.toArray⟩,?_,.pure (.s l)⟩
 simp only [execOp,ho,Sem.run_bind,run_conv_str (ht.slice hk) (he.int hke) (hu.str hku) hsl,Result.andThen_ok,Sem.run_pure]
 rfl
theorem op_cat {t yt:Nat} {x y:Operand} {l m:List UInt8} (ho:o.op = .binOp .add t x y yt) (hx:s.ev x = .s l) (hy:s.ev y = .s m) (hl:l.length+m.length<=9223372036854775807):OpLoc P N o s ⟨.s (l++m),[],[]⟩:=by
 refine oploc_val [] _ fun s' W F μ a g1 g2 hs=>⟨.string ⟨(l++m).toArray⟩,?_,.pure (.s _)⟩
 have ex:=hs.ev x
 rw [g1 x (by rw [ho];simp [Op.operands]),hx] at ex
 have ey:=hs.ev y
 rw [g1 y (by rw [ho];simp [Op.operands]),hy] at ey
 have hc:¬((((⟨l.toArray⟩:ByteArray).size+(⟨m.toArray⟩:ByteArray).size:Nat):Int)>IntKind.i64.max):=by
  have:IntKind.i64.max=9223372036854775807:=by decide
  rw [this]
  simp only [ByteArray.size,List.size_toArray]
  omega
 have he:(⟨l.toArray⟩++⟨m.toArray⟩:ByteArray)=⟨(l++m).toArray⟩:=by
  apply ByteArray.ext
  simp
 have hg:=eqGuard_scalar (P:=P) (op:=.add) (t:=t) (x:=x) (y:=y) (u:=.string ⟨l.toArray⟩) (v:=.string ⟨m.toArray⟩) (W:=W) rfl (by simp)
 have hb:binOp .add t (.string ⟨l.toArray⟩) (.string ⟨m.toArray⟩)=Op.stringOp .add ⟨l.toArray⟩ ⟨m.toArray⟩:=rfl
 simp only [execOp,ho,ex.s',ey.s',Sem.run_bind,hg,Result.andThen_ok,hb,Op.stringOp,if_neg hc,Sem.run_pure,he]
end
end Go.Proofs.YthgbdoofchknhaaGreatDoor.Sm
end
section
namespace Go.Proofs.YthgbdoofchknhaaGreatDoor.Sm
open Go.RowKit
section
variable {P : Program} {N : Nat} {o : Oper} {s : St}
def fillA (place:Nat->Option (Nat × Nat)):List AV->List (Nat × AV)->Option (List AV)
 | cs,[]=>some cs
 | cs,p::l=>match place p.1 with
  | some (off,size)=>cond (Nat.beq p.2.cells.length size && Nat.ble (off+size) cs.length && p.2.cells.all AV.one) (fillA place (ovw cs off p.2.cells) l) none
  | none=>none
theorem fold_set (off:Nat):∀(vs:List Value) (cs:Array Value) (k:Nat),off+k+vs.length<=cs.size ->
  (vs.zipIdx k).foldl (fun cs p=>cs.setIfInBounds (off+p.2) p.1) cs=((cs.toList.take (off+k))++vs++cs.toList.drop (off+k+vs.length)).toArray
 | [],cs,k,h=>by simp
 | v::vs,cs,k,h=>by
  rw [List.zipIdx_cons,List.foldl_cons,fold_set off vs _ (k+1) (by simp at h ⊢;omega)]
  apply Array.toList_inj.1
  simp only [Array.toList_setIfInBounds,List.length_cons]
  simp only [List.length_cons] at h
  have hlt:off+k<cs.toList.length:=by simp;omega
  rw [List.take_set,List.drop_set,if_pos (by omega),show off+(k+1)=off+k+1 by omega,List.take_add_one,List.getElem?_eq_getElem hlt]
  have e:(cs.toList.take (off+k)++(some cs.toList[off+k]).toList).set (off+k) v=cs.toList.take (off+k)++[v]:=by
   rw [List.set_append,List.length_take,Nat.min_eq_left (by omega),if_neg (by omega)]
   simp
  rw [e,show off+k+1+vs.length=off+k+(vs.length+1) by omega]
  simp
theorem fill_ok {place : Nat -> Option (Nat × Nat)} {W : World} {F : Nat -> Prop} {μ : Mu} {σ : Sto} : ∀ (ps : List (Nat × AV)) (qs : List (Nat × Value)) (cs : List AV) (vs : Array Value) (r : List AV), ps.map (·.1) = qs.map (·.1) ->
    (∀(j:Nat) (p:Nat × AV) (q:Nat × Value),ps[j]?=some p->qs[j]?=some q->Rel W F μ σ p.2 q.2)->vs.size=cs.length->(∀(j:Nat) (x:AV) (v:Value),cs[j]?=some x->vs[j]?=some v->x.one=true/\Rel W F μ σ x v) ->
    fillA place cs ps=some r->∃us:Array Value,Instr.fill place vs qs=some us/\us.size=r.length/\∀(j:Nat) (x:AV) (v:Value),r[j]?=some x->us[j]?=some v->x.one=true/\Rel W F μ σ x v
  | [],qs,cs,vs,r,hm,hr,hl,hc,h=>by
    obtain rfl:qs=[]:=by simpa using hm.symm
    obtain rfl:=Option.some.inj h
    exact ⟨vs,rfl,hl,hc⟩
  | p::ps,[],cs,vs,r,hm,hr,hl,hc,h=>by simp at hm
  | p::ps,q::qs,cs,vs,r,hm,hr,hl,hc,h=>by
    simp only [List.map_cons,List.cons.injEq] at hm
    simp only [fillA] at h
    cases hp:place p.1 with
    | none=>rw [hp] at h;cases h
    | some os =>
      obtain ⟨off,size⟩:=os
      rw [hp] at h
      simp only at h
      cases hb:(Nat.beq p.2.cells.length size && Nat.ble (off+size) cs.length && p.2.cells.all AV.one) with
      | false=>rw [hb] at h;cases h
      | true =>
        rw [hb,cond_true] at h
        simp only [Bool.and_eq_true,List.all_eq_true] at hb
        obtain ⟨⟨hb1,hb2⟩,hb3⟩:=hb
        have hb1:=Nat.eq_of_beq_eq_true hb1
        have hb2:=Nat.le_of_ble_eq_true hb2
        obtain ⟨hcl,hcr⟩:=cells_rel (hr 0 p q rfl rfl) hb3
        have hqs:q.2.cells.size=size:=by rw [<- Array.length_toList,hcl,hb1]
        have hfold:q.2.cells.zipIdx.foldl (fun cs (x:Value × Nat)=>cs.setIfInBounds (off+x.2) x.1) vs=(vs.toList.take off++q.2.cells.toList++vs.toList.drop (off+size)).toArray:=by
          have:=fold_set off q.2.cells.toList vs 0 (by rw [Array.length_toList,hqs];omega)
          rw [Nat.add_zero,Array.length_toList,hqs] at this
          rw [<- this,<- Array.foldl_toList,Array.toList_zipIdx]
        obtain ⟨us,h1,h2,h3⟩:=fill_ok ps qs (ovw cs off p.2.cells) (vs.toList.take off++q.2.cells.toList++vs.toList.drop (off+size)).toArray r hm.2 (fun j p q h1 h2=>hr (j+1) p q (by simpa using h1) (by simpa using h2))
          (by simp only [List.size_toArray,List.length_append,List.length_take,List.length_drop,Array.length_toList,ovw_length,hqs];omega) (fun j x v hx hv=>by
            rw [ovw_get _ _ _ _ (by omega)] at hx
            rw [List.getElem?_toArray,List.append_assoc,List.getElem?_append,List.length_take,Array.length_toList,Nat.min_eq_left (by omega)] at hv
            by_cases e1:j<off
            · rw [if_neg (by omega)] at hx
              rw [if_pos e1,List.getElem?_take,if_pos e1,Array.getElem?_toList] at hv
              exact hc j x v hx hv
            · rw [if_neg e1,List.getElem?_append,Array.length_toList,hqs] at hv
              by_cases e2:j - off<size
              · rw [if_pos (by omega)] at hx
                rw [if_pos e2] at hv
                exact hcr _ _ _ hx hv
              · rw [if_neg (by omega)] at hx
                rw [if_neg e2,List.getElem?_drop,Array.getElem?_toList,show off+size+(j - off - size)=j by omega] at hv
                exact hc j x v hx hv) h
        refine ⟨us,?_,h2,h3⟩
        obtain ⟨i,v⟩:=q
        simp only at hm hqs hfold h1
        rw [Instr.fill,<- hm.1,hp]
        simp only
        rw [if_neg (by rw [hqs];simp;omega),hfold]
        exact h1
theorem parts_rel {s':St} {W:World} {F:Nat->Prop} {μ:Mu} {a:Act} (hr:RS N W F μ s' a) {parts:Array (Nat × Operand)} (hs:∀p∈parts.toList,s'.ev p.2=s.ev p.2) :
  (parts.toList.map fun p=>(p.1,s.ev p.2)).map (·.1)=(parts.map fun (p:Nat × Operand)=>(p.1,a.eval p.2)).toList.map (·.1) /\
  ∀(j:Nat) (p:Nat × AV) (q:Nat × Value),(parts.toList.map fun p=>(p.1,s.ev p.2))[j]?=some p->(parts.map fun (p:Nat × Operand)=>(p.1,a.eval p.2)).toList[j]?=some q->Rel W F μ s'.σ p.2 q.2:=by
 refine ⟨by simp,fun j p q hp hq=>?_⟩
 rw [List.getElem?_map] at hp
 rw [Array.toList_map,List.getElem?_map] at hq
 cases hx:parts.toList[j]? with
 | none=>rw [hx] at hp;cases hp
 | some x =>
  rw [hx] at hp hq
  obtain rfl:=Option.some.inj hp
  obtain rfl:=Option.some.inj hq
  show Rel W F μ s'.σ (s.ev x.2) (a.eval x.2)
  rw [<- hs x (List.mem_of_getElem? hx)]
  exact hr.ev x.2
def plS (T:TT) (fs:List (Nat × Nat)) (i:Nat):Option (Nat × Nat) :=
 match fs[i]? with
 | some (ft,off)=>match tget T ft with
  | some fi=>some (off,fi.n)
  | none=>none
 | none=>none
theorem places_mapM {T:TT} (hT:tabB P T=true):∀(fs:List Field),(∀f∈fs,(tget T f.type).isSome=true) ->
  ∃pl,fs.mapM (fun f=>(P.info? f.type).map fun i=>(f.offset,i.size))=some pl/\∀i,pl[i]?=plS T (fs.map fun f=>(f.type,f.offset)) i
 | [],_=>⟨[],rfl,fun i=>by simp [plS]⟩
 | f::fs,h=>by
  obtain ⟨pl,h1,h2⟩:=places_mapM hT fs fun g hg=>h g (by simp [hg])
  obtain ⟨ti,hti⟩:=Option.isSome_iff_exists.1 (h f (by simp))
  obtain ⟨inf,d,z,g1,g2,g3,_⟩:=(tab_ok hT hti).h
  refine ⟨(f.offset,ti.n)::pl,by simp [h1,g1,g3],fun i=>?_⟩
  cases i with
  | zero=>simp [plS,hti]
  | succ i =>
   rw [List.getElem?_cons_succ,h2]
   simp [plS]
theorem op_build {T : TT} (hT : tabB P T = true) {t : Nat} {ti : TI} {fs : List (Nat × Nat)} {parts : Array (Nat × Operand)} {r : List AV} (ho : o.op = .build t parts) (ht : tget T t = some ti) (hk : ti.k = .strct fs) (hf : fs.all (fun p => (tget T p.1).isSome) = true)
    (hr:fillA (plS T fs) ti.z (parts.toList.map fun p=>(p.1,s.ev p.2))=some r) (h1:r.all AV.one=true):OpLoc P N o s ⟨.agg r,[],[]⟩:=by
  refine oploc_val [] _ fun s' W F μ a g1 g2 hs=>?_
  have hp:=parts_rel (s:=s) hs (parts:=parts) fun p hp=>g1 p.2 (by rw [ho];simp only [Op.operands,List.mem_map];exact ⟨p,hp,rfl⟩)
  obtain ⟨inf,d,z,q1,q2,q3,q4,q5,q6,q7⟩:=(tab_ok hT ht).h
  obtain ⟨fs',hu,hm⟩:=(tab_ok hT ht).strct hk
  have hz:=zsOk_rel (W:=W) (F:=F) q7
  obtain ⟨us,k1,k2,k3⟩:=fill_ok _ _ ti.z z.cells r hp.1 hp.2 (by rw [<- Array.length_toList];exact hz.1) (fun j x v hx hv=>by
    have:=hz.2 j x v hx (by simpa using hv)
    exact ⟨this.2,.pure this.1⟩) hr
  rw [List.all_eq_true] at hf h1
  obtain ⟨pl,e1,e2⟩:=places_mapM hT fs'.toList fun f hfm=>by
    have:=hf (f.type,f.offset) (by rw [<- hm];exact List.mem_map_of_mem (f:=fun f:Field=>(f.type,f.offset)) hfm)
    simpa using this
  have hb:P.built t (parts.map fun (p:Nat × Operand)=>(p.1,a.eval p.2)).toList=some us:=by
    have hpl:(fun i=>pl.toArray[i]?)=plS T fs:=by
      funext i
      rw [List.getElem?_toArray,e2,hm]
    simp only [Program.built,q1,hu,q6,e1]
    rw [hpl]
    exact k1
  refine ⟨.agg us.toList.toArray,?_,.agg r us.toList (by simpa using k2) (fun j x hx=>h1 x (List.mem_of_getElem? hx)) (fun j x v hx hv=>(k3 j x v hx (by simpa using hv)).2)⟩
  have e3:us.toList.toArray=us:=by simp
  simp only [execOp,ho,Sem.run_bind,run_build W t _ us hb,Result.andThen_ok,Sem.run_pure,e3]
theorem oploc_newK {id : Nat} {bd : Body} {r : AV} (rd l : List Nat) (h : ∀ (s' : St) W F μ a, (∀ y ∈ o.op.operands.toList, s'.ev y = s.ev y) -> (∀ i ∈ rd, s'.σ i = s.σ i) -> (∀ i ∈ l, s'.σ i = s.σ i) -> RS N W F μ s' a ->
   ∃(v:Value) (cs:List Value) (t c:Nat),(execOp a.eval o).run P W = .ok (.value v) (W.alloc (.cells cs.toArray t)) /\
    ∀F' μ' σ',Stp W F μ s'.σ (W.alloc (.cells cs.toArray t)) F' μ' σ'->(∀b,F b\/Beh μ s'.σ l b->F' b)->σ' id=⟨(s.σ id).ep+1,some bd⟩->μ' id=some (W.heap.size,c) ->
     BodyRel (W.alloc (.cells cs.toArray t)) F' μ' σ' (some (W.heap.size,c)) bd/\Rel (W.alloc (.cells cs.toArray t)) F' μ' σ' r v) :
  OpLoc P N o s ⟨r,killS s.σ l++[(id,⟨(s.σ id).ep+1,some bd⟩)],rd⟩:=by
 intro s' h1 h2 h3 W F μ a hr K Q hK
 have hid:s'.σ id=s.σ id:=h3 (id,⟨(s.σ id).ep+1,some bd⟩) (by simp)
 have hl:∀i∈l,s'.σ i=s.σ i:=fun i hi=>h3 (i,⟨(s.σ i).ep,none⟩) (List.mem_append_left _ (List.mem_map_of_mem (f:=fun id=>(id,(⟨(s.σ id).ep,none⟩:SB))) hi))
 obtain ⟨v,cs,t,c,hrun,hgo⟩:=h s' W F μ a h1 h2 hl hr
 obtain ⟨hs0,hi0⟩:=hr.ext (Kp.refl No W) l rfl
 generalize hσ1:ups s'.σ (killS s'.σ l)=σ1 at hs0 hi0
 generalize hF1:(fun b=>(F b\/Beh μ s'.σ l b)\/(W.heap.size<=b/\b<W.heap.size))=F1 at hs0 hi0
 have hepid:(σ1 id).ep=(s.σ id).ep:=by
  rw [<- hσ1,ups_kill]
  split
  ·rw [hid]
  ·rw [hid]
 have hk:Kp (fun b=>(σ1 id).body.isSome=true/\∃c,μ id=some (b,c)) W (W.alloc (.cells cs.toArray t)):=(Kp.refl _ W).alloc _
 have hσ:up1 σ1 id ⟨(s.σ id).ep+1,some bd⟩ id=⟨(s.σ id).ep+1,some bd⟩:=by rw [up1_eq,if_pos rfl]
 have hμ:upm μ id (some (W.heap.size,c)) id=some (W.heap.size,c):=by rw [upm_eq,if_pos rfl]
 have hF:∀b,F b\/Beh μ s'.σ l b->F1 b:=fun b hb=>by rw [<- hF1];exact .inl hb
 obtain ⟨hs,hi⟩:=inv_turn hi0 id (some (W.heap.size,c)) ((s.σ id).ep+1) bd hk (fun b c' e=>by
   have e':W.heap.size=b:=by simp only [Option.some.injEq,Prod.mk.injEq] at e;exact e.1
   subst e'
   exact ⟨by simp,.inl (Nat.le_refl _)⟩) (.inl (by rw [hepid];omega)) (fun hs=>(hgo _ _ _ (hs0.trans hs) hF hσ hμ).1)
 have hup:ups s'.σ (killS s.σ l++[(id,⟨(s.σ id).ep+1,some bd⟩)])=up1 σ1 id ⟨(s.σ id).ep+1,some bd⟩:=by
  have e:killS s.σ l=killS s'.σ l:=List.map_congr_left fun i hi=>by rw [hl i hi]
  rw [e,<- hσ1]
  have app:∀(a b:List (Nat × SB)) (τ:Sto),ups τ (a++b)=ups (ups τ a) b:=fun a=>by
   induction a with
   | nil=>exact fun _ _=>rfl
   | cons p a ih=>exact fun b τ=>ih b _
  rw [app]
  rfl
 unfold Oper.wp
 rw [hrun]
 refine hK _ F1 (upm μ id (some (W.heap.size,c))) _ ?_ ?_
 ·show RS N _ F1 _ ⟨putS N s'.ts o.dst r,ups s'.σ _⟩ _
  rw [hup]
  exact hr.put (hs0.trans hs) hi (hgo _ _ _ (hs0.trans hs) hF hσ hμ).2
 ·rw [hup]
  exact hs0.trans hs
structure RowC (W:World) (F:Nat->Prop) (m:Nat) (els:List (List AV)) (cells:List Value):Prop where
 hm:∀(k:Nat) (cs:List AV),els[k]?=some cs->cs.length=m
 n:cells.length=els.length*m
 r:∀(k:Nat) (cs:List AV) (j:Nat) (x:AV),els[k]?=some cs->cs[j]?=some x->x.one=true/\∃u,cells[k*m+j]?=some u/\PRel W F x u
theorem RowC.nil (W:World) (F:Nat->Prop) (m:Nat):RowC W F m [] []:=⟨fun k cs h=>by simp at h,by simp,fun k cs j x h=>by simp at h⟩
theorem RowC.append {W:World} {F:Nat->Prop} {m:Nat} {a b:List (List AV)} {c d:List Value} (h:RowC W F m a c) (k:RowC W F m b d):RowC W F m (a++b) (c++d):=by
 refine ⟨fun i cs hi=>?_,by rw [List.length_append,List.length_append,h.n,k.n,Nat.add_mul],fun i cs j x hi hj=>?_⟩
 ·rw [List.getElem?_append] at hi
  split at hi
  ·exact h.hm i cs hi
  ·exact k.hm _ cs hi
 ·rw [List.getElem?_append] at hi
  split at hi
  ·rename_i hlt
   obtain ⟨r1,u,r2,r3⟩:=h.r i cs j x hi hj
   exact ⟨r1,u,by rw [List.getElem?_append_left (List.getElem?_eq_some_iff.1 r2).1];exact r2,r3⟩
  ·rename_i hlt
   obtain ⟨r1,u,r2,r3⟩:=k.r _ cs j x hi hj
   have hle:a.length*m<=i*m:=Nat.mul_le_mul_right m (by omega)
   refine ⟨r1,u,?_,r3⟩
   rw [List.getElem?_append_right (by rw [h.n];omega),h.n,<- r2]
   congr 1
   rw [Nat.sub_mul]
   omega
theorem RowC.stp {W W':World} {F F':Nat->Prop} {μ μ':Mu} {σ σ':Sto} (hi:Inv W F μ σ) (hs:Stp W F μ σ W' F' μ' σ') {m:Nat} {els:List (List AV)} {cells:List Value} (h:RowC W F m els cells):RowC W' F' m els cells :=
 ⟨h.hm,h.n,fun k cs j x h1 h2=>by obtain ⟨r1,u,r2,r3⟩:=h.r k cs j x h1 h2;exact ⟨r1,u,r2,r3.stp hi hs⟩⟩
theorem RowC.one {W:World} {F:Nat->Prop} {m:Nat} {els:List (List AV)} {cells:List Value} (h:RowC W F m els cells) (hm:0<m):∀u∈cells,u.oneCell'=true:=by
 intro u hu
 obtain ⟨i,hi⟩:=List.getElem?_of_mem hu
 have hlt:i<els.length*m:=by have:=(List.getElem?_eq_some_iff.1 hi).1;rw [h.n] at this;exact this
 have hk:i / m<els.length:=(Nat.div_lt_iff_lt_mul hm).2 hlt
 obtain ⟨cs,hcs⟩:∃cs,els[i / m]?=some cs:=⟨_,List.getElem?_eq_getElem hk⟩
 have hj:i % m<cs.length:=by rw [h.hm _ cs hcs];exact Nat.mod_lt _ hm
 obtain ⟨r1,u',r2,r3⟩:=h.r _ cs (i % m) _ hcs (List.getElem?_eq_getElem hj)
 have e:i / m*m+i % m=i:=by rw [Nat.mul_comm];exact Nat.div_add_mod i m
 rw [e,hi] at r2
 obtain rfl:=Option.some.inj r2
 exact r3.one r1
theorem RowC.body {W:World} {F:Nat->Prop} {μ:Mu} {σ:Sto} {m t b cap:Nat} {els:List (List AV)} {cells:List Value} {cur:Array Value} (h:RowC W F m els cells) (hh:W.heap[b]?=some (.cells cur t (0,0))) (h1:els.length<=cap) (h2:cap<=maxLen) (h3:cur.size=cap*m)
  (h4:cur.toList.take (els.length*m)=cells):BodyRel W F μ σ (some (b,cap)) (.row t m els):=by
 refine .inr ⟨b,cap,cur,rfl,hh,h1,h2,h3,h.hm,fun k cs j x hk hj=>?_⟩
 obtain ⟨r1,u,r2,r3⟩:=h.r k cs j x hk hj
 refine ⟨r1,u,?_,r3⟩
 rw [<- h4,List.getElem?_take] at r2
 split at r2
 ·simpa using r2
 ·cases r2
theorem rep_flat (l:List AV):∀(n i:Nat),i<n*l.length->(List.replicate n l).flatten[i]?=l[i % l.length]?
 | 0,i,h=>by simp at h
 | n+1,i,h=>by
  rw [List.replicate_succ,List.flatten_cons,List.getElem?_append]
  split
  ·rename_i hlt
   rw [Nat.mod_eq_of_lt hlt]
  ·rename_i hge
   rw [rep_flat l n _ (by rw [Nat.add_mul,Nat.one_mul] at h;omega)]
   congr 1
   rw [Nat.mod_eq_sub_mod (a:=i) (by omega)]
theorem flat_get {els:List (List AV)} {m:Nat} (hm:∀cs∈els,cs.length=m):∀{k:Nat} {cs:List AV} {j:Nat} {x:AV},els[k]?=some cs->cs[j]?=some x->els.flatten[k*m+j]?=some x:=by
 induction els with
 | nil=>intro k cs j x h;simp at h
 | cons c els ih =>
  intro k cs j x h1 h2
  rw [List.flatten_cons]
  cases k with
  | zero =>
   obtain rfl:c=cs:=by simpa using h1
   rw [Nat.zero_mul,Nat.zero_add,List.getElem?_append_left (List.getElem?_eq_some_iff.1 h2).1]
   exact h2
  | succ k =>
   have hc:=hm c (by simp)
   rw [List.getElem?_append_right (by rw [hc,Nat.add_mul];omega),hc,show (k+1)*m+j - m=k*m+j by rw [Nat.add_mul];omega]
   exact ih (fun cs h=>hm cs (by simp [h])) (by simpa using h1) h2
theorem flat_len {els:List (List AV)} {m:Nat} (hm:∀cs∈els,cs.length=m):els.flatten.length=els.length*m:=by
 induction els with
 | nil=>simp
 | cons c els ih=>rw [List.flatten_cons,List.length_append,ih fun cs h=>hm cs (by simp [h]),hm c (by simp),List.length_cons,Nat.add_mul];omega
theorem op_buildSlice {t e len id : Nat} {ti ei : TI} {parts : Array (Nat × Operand)} {xs : List AV} {l : List Nat} {els : List (List AV)} (ho : o.op = .buildSlice t len parts) (ht : TiOk P t ti) (hk : ti.k = .slice e) (he : TiOk P e ei) (h0 : (ei.n == 0) = false) (hlen : 0 < len) (hbig : len * ei.n <= 16777216)
    (hz:FzL s.σ (parts.toList.map fun p=>s.ev p.2) xs l) (hf:fillA (fun i=>some (i*ei.n,ei.n)) (List.replicate len ei.z).flatten ((parts.toList.map (·.1)).zip xs)=some els.flatten) (hl:els.length=len) (hm:els.all (fun cs=>Nat.beq cs.length ei.n)=true)
    (hpu:els.all (fun cs=>cs.all fun x=>x.one && x.pu1)=true):OpLoc P N o s ⟨.row id ((s.σ id).ep+1) 0 len,killS s.σ l++[(id,⟨(s.σ id).ep+1,some (.row e ei.n els)⟩)],[]⟩:=by
  refine oploc_newK [] l fun s' W F μ a g1 g2 g3 hs=>?_
  have hz':=hz.congr g3
  have hn0:¬ei.n=0:=by simpa using h0
  obtain ⟨inf,d,z,q1,q2,q3,q4,q5,q6,q7⟩:=he.h
  have hp:=parts_rel (s:=s) hs (parts:=parts) fun p hp=>g1 p.2 (by rw [ho];simp only [Op.operands,List.mem_map];exact ⟨p,hp,rfl⟩)
  -- the parts, frozen
  have hrel:=hz'.rel (W:=W) (F:=F) (μ:=μ) hs.inv (vs:=parts.toList.map fun p=>a.eval p.2) (by simp) (fun j x v hx hv=>by
    rw [List.getElem?_map] at hx hv
    cases hq:parts.toList[j]? with
    | none=>rw [hq] at hx;cases hx
    | some q =>
      rw [hq] at hx hv
      obtain rfl:=Option.some.inj hx
      obtain rfl:=Option.some.inj hv
      show Rel W F μ s'.σ (s.ev q.2) (a.eval q.2)
      rw [<- g1 q.2 (by rw [ho];simp only [Op.operands,List.mem_map];exact ⟨q,List.mem_of_getElem? hq,rfl⟩)]
      exact hs.ev q.2)
  have hzr:=zsOk_rel (W:=W) (F:=fun b=>F b\/Beh μ s'.σ l b) q7
  have hzl:ei.z.length=z.cells.size:=by rw [<- Array.length_toList];exact hzr.1.symm
  have hzn:=he.zl
  have hms:(parts.toList.map (·.1)).length=xs.length:=by rw [hrel.1];simp
  obtain ⟨us,k1,k2,k3⟩:=fill_ok (W:=W) (F:=fun b=>F b\/Beh μ s'.σ l b) (μ:=μ) (σ:=s'.σ) ((parts.toList.map (·.1)).zip xs) (parts.map fun (p:Nat × Operand)=>(p.1,a.eval p.2)).toList (List.replicate len ei.z).flatten
    ((Array.range (len*ei.n)).map (z.cells[· % z.cells.size]!)) els.flatten (by rw [List.map_fst_zip (by omega)];simp) (fun j p q hp' hq'=>by
      rw [Array.toList_map,List.getElem?_map] at hq'
      obtain ⟨y1,y2⟩:=p
      rw [List.getElem?_zip_eq_some] at hp'
      cases hx:parts.toList[j]? with
      | none=>rw [hx] at hq';cases hq'
      | some x =>
        rw [hx] at hq'
        obtain rfl:=Option.some.inj hq'
        exact .pure (hrel.2 j _ _ hp'.2 (by rw [List.getElem?_map,hx];rfl))) (by rw [flat_len (m:=ei.n) (by intro cs hcs;rw [(List.mem_replicate.1 hcs).2];exact hzn)];simp) (fun j x v hx hv=>by
      have hj:j<len*ei.n:=by
        have:=(List.getElem?_eq_some_iff.1 hx).1
        rw [flat_len (m:=ei.n) (by intro cs hcs;rw [(List.mem_replicate.1 hcs).2];exact hzn)] at this
        simpa using this
      rw [rep_flat _ _ _ (by rw [hzn];exact hj),hzn] at hx
      rw [Array.getElem?_map] at hv
      have:(Array.range (len*ei.n))[j]?=some j:=by simp [hj]
      rw [this] at hv
      have hlt:j % ei.n<z.cells.size:=by rw [<- hzl,hzn];exact Nat.mod_lt _ (by omega)
      have hv':z.cells.toList[j % ei.n]?=some v:=by
        rw [Array.getElem?_toList,Array.getElem?_eq_getElem hlt]
        simp only [Option.map_some,<- hzl,hzn] at hv
        rw [getElem!_pos z.cells _ hlt] at hv
        exact hv
      have:=hzr.2 _ x v hx hv'
      exact ⟨this.2,.pure this.1⟩) hf
  have hmm:∀cs∈els,cs.length=ei.n:=fun cs hcs=>Nat.eq_of_beq_eq_true (List.all_eq_true.1 hm cs hcs)
  have hrow:RowC W (fun b=>F b\/Beh μ s'.σ l b) ei.n els us.toList:=by
    refine ⟨fun k cs hk=>hmm cs (List.mem_of_getElem? hk),by rw [Array.length_toList,k2,flat_len hmm],fun k cs j x hk hj=>?_⟩
    have hx:=flat_get hmm hk hj
    obtain ⟨v,hv⟩:∃v,us[k*ei.n+j]?=some v:=⟨_,Array.getElem?_eq_getElem (by rw [k2];exact (List.getElem?_eq_some_iff.1 hx).1)⟩
    obtain ⟨r1,r2⟩:=k3 _ x v hx hv
    have:=List.all_eq_true.1 (List.all_eq_true.1 hpu cs (List.mem_of_getElem? hk)) x (List.mem_of_getElem? hj)
    rw [Bool.and_eq_true] at this
    exact ⟨r1,v,by simpa using hv,pu1_rel this.2 r2⟩
  have hpos:¬len*ei.n=0:=by
    have:=Nat.mul_pos hlen (show 0<ei.n by omega)
    omega
  have husz:us.size=len*ei.n:=by rw [k2,flat_len hmm,hl]
  refine ⟨.slice (some ⟨W.heap.size,0,none⟩) len len,us.toList,e,len,?_,fun F' μ' σ' hst hF' hσ hμ=>⟨?_,?_⟩⟩
  · have e3:us.toList.toArray=us:=by simp
    have hrun:=run_buildSlice (P:=P) W t e len (parts.map fun (p:Nat × Operand)=>(p.1,a.eval p.2)) us inf z (ht.slice hk) q1 q6 (by rw [q3];omega) (by rw [q3];exact hpos) (by rw [q3];exact k1)
    simp only [execOp,ho,Sem.run_bind,hrun,Result.andThen_ok,Sem.run_pure,e3]
  · have hk2 : RowC (W.alloc (.cells us.toList.toArray e)) F' ei.n els us.toList := by
      refine ⟨hrow.hm,hrow.n,fun k cs j x h1 h2=>?_⟩
      obtain ⟨r1,u,r2,r3⟩:=hrow.r k cs j x h1 h2
      exact ⟨r1,u,r2,r3.keep (fun b hb hlt=>Below.heap_alloc _ _ _ hlt) fun b hb _=>hF' b hb⟩
    refine hk2.body (heap_alloc_new W _) (Nat.le_of_eq hl) ?_ (by simp [husz]) (by
      rw [List.take_of_length_le]
      simp [husz,hl])
    have:len<=len*ei.n:=Nat.le_mul_of_pos_right len (by omega)
    unfold maxLen
    omega
  · refine .row id _ 0 len _ (by rw [hσ];exact Nat.le_refl _) rfl fun bd' m' l' hbd hL=>?_
    rw [hσ] at hbd
    obtain rfl:Body.row e ei.n els=bd':=by simpa using hbd
    obtain ⟨rfl,rfl⟩:ei.n=m'/\els.length=l':=by simpa [Body.rowL] using hL
    exact ⟨by omega,by rw [hμ];simp⟩
end
end Go.Proofs.YthgbdoofchknhaaGreatDoor.Sm
end
section
namespace Go.Proofs.YthgbdoofchknhaaGreatDoor.Sm
open Go.RowKit
theorem row_owns {W : World} {F : Nat -> Prop} {μ : Mu} {σ : Sto} (hi : Inv W F μ σ) {id ep t m : Nat} {els : List (List AV)} (hid : σ id = ⟨ep, some (.row t m els)⟩) {v : Value} (hv : Rel W F μ σ (.row id ep 0 els.length) v) :
    ∃cells,W.ownsRow 0 t m v els.length cells/\RowC W F m els cells/\∀g,v.ownBlock=some g->∃c,μ id=some (g,c):=by
  obtain ⟨_,⟨rfl,rfl,_⟩ | ⟨b,cap,hm,rfl,q1,q2⟩⟩:=row_form hi hv hid
  · exact ⟨[],World.ownsRow_nil W 0 t m,RowC.nil W F m,fun g h=>by simp [Value.ownBlock] at h⟩
  · rcases hi.body _ _ _ hid with ⟨hn,_⟩ | ⟨b',cap',cur,hp,hh,r1,r2,r3,r4,r5⟩
    · rw [hn] at hm;cases hm
    · obtain ⟨rfl,rfl⟩:b=b'/\cap=cap':=by rw [hm] at hp;simpa using hp
      have hle:els.length*m<=cap*m:=Nat.mul_le_mul_right m r1
      refine ⟨cur.toList.take (els.length*m),⟨by simp;omega,.inr ⟨b,cap,cur,by simp,Nat.zero_le _,hh,r1,r2,r3,rfl⟩⟩,⟨r4,by simp;omega,fun k cs j x hk hj=>?_⟩,fun g h=>⟨cap,by rw [hm];simp [Value.ownBlock] at h;rw [h]⟩⟩
      obtain ⟨s1,u,s2,s3⟩:=r5 k cs j x hk hj
      have hlt:k*m+j<els.length*m:=by
        have h1:j<m:=by have:=(List.getElem?_eq_some_iff.1 hj).1;rw [r4 k cs hk] at this;exact this
        have h2:=Nat.mul_le_mul_right m (show k+1<=els.length from (List.getElem?_eq_some_iff.1 hk).1)
        rw [Nat.add_mul,Nat.one_mul] at h2
        omega
      exact ⟨s1,u,by rw [List.getElem?_take,if_pos hlt];simpa using s2,s3⟩
def Src (W:World) (F:Nat->Prop) (m:Nat) (els:List (List AV)) (v:Value):Prop :=
 ∃A c news,v = .slice A els.length c/\RowC W F m els news/\((∃ad,A=some ad/\∀(j:Nat) (u:Value),news[j]?=some u->W.cell? (ad.add j)=some u)\/els=[])
theorem src_row {W:World} {F:Nat->Prop} {μ:Mu} {σ:Sto} (hi:Inv W F μ σ) {id ep t m:Nat} {els:List (List AV)} (hid:σ id=⟨ep,some (.row t m els)⟩) {v:Value} (hv:Rel W F μ σ (.row id ep 0 els.length) v):Src W F m els v:=by
 obtain ⟨cells,⟨hl,h⟩,hc,_⟩:=row_owns hi hid hv
 rcases h with ⟨rfl,h0⟩ | ⟨g,cap,cur,rfl,_,hh,h1,h2,h3,h4⟩
 ·have e:els=[]:=List.eq_nil_of_length_eq_zero h0
  subst e
  exact ⟨none,0,[],rfl,RowC.nil W F m,.inr rfl⟩
 ·refine ⟨_,cap,cells,rfl,hc,.inl ⟨_,rfl,fun j u hu=>?_⟩⟩
  rw [ca_ptr (W:=W),Nat.zero_add,cell_of_row _ g _ _ _ (0,0) hh]
  rw [<- h4,List.getElem?_take] at hu
  split at hu
  ·simpa using hu
  ·cases hu
section
variable {P : Program} {N : Nat} {o : Oper} {s : St}
theorem append_run {t ty e : Nat} {ti ei : TI} (ht : TiOk P t ti) (hk : ti.k = .slice e) (he : TiOk P e ei) (h0 : 0 < ei.n) {W : World} {F : Nat -> Prop} {v y : Value} {n : Nat} {els els2 : List (List AV)} {cells : List Value} (hown : W.ownsRow 0 e ei.n v els.length cells) (hc : RowC W F ei.n els cells) (hy : Src W F ei.n els2 y)
    (hb:(els.length+els2.length)*ei.sz<=140737488355328) (h63:els.length+els2.length<=9223372036854775807) :
    ∃v' W' cells',(Builtin.append_ #[t,t] ty #[v,y]).run P W = .ok v' W'/\W'.ownsRow 0 e ei.n v' (els++els2).length cells'/\(∃news,cells'=cells++news/\RowC W F ei.n els2 news)/\W.grownBy W' v.ownBlock/\(v'.ownBlock=v.ownBlock\/v'.ownBlock=some W.heap.size):=by
  obtain ⟨A,c,news,rfl,hn,hA⟩:=hy
  obtain ⟨inf,d,z,q1,q2,q3,q4,q5,q6,q7⟩:=he.h
  have hzl:z.cells.size=ei.n:=by rw [<- he.zl,<- Array.length_toList];exact (zsOk_rel (W:=W) (F:=F) q7).1
  rcases hA with ⟨ad,rfl,hcell⟩ | rfl
  · obtain ⟨v',W',hr,ho,hg,_,hat⟩:=run_append_own_at (P:=P) W 0 t ty e inf z ei.n ei.sz (ht.slice hk) q1 q6 q3 q4 hzl h0 v els.length cells hown ad els2.length c news hn.n hcell (hn.one h0) (by unfold maxLen;omega) hb (Nat.zero_le _)
    exact ⟨v',W',_,hr,by rw [List.length_append];exact ho,⟨news,rfl,hn⟩,hg,hat⟩
  · have e0:news=[]:=List.eq_nil_of_length_eq_zero (by rw [hn.n];simp)
    subst e0
    cases A with
    | some ad =>
      obtain ⟨v',W',hr,ho,hg,_,hat⟩:=run_append_own_at (P:=P) W 0 t ty e inf z ei.n ei.sz (ht.slice hk) q1 q6 q3 q4 hzl h0 v els.length cells hown ad 0 c [] (by simp) (by simp) (by simp) (by unfold maxLen;simp at h63;omega) (by simpa using hb) (Nat.zero_le _)
      exact ⟨v',W',_,hr,by rw [List.append_nil];simpa using ho,⟨[],rfl,hn⟩,hg,hat⟩
    | none =>
      refine ⟨v,W,cells,?_,by rw [List.append_nil];exact hown,⟨[],by simp,hn⟩,⟨rfl,rfl,rfl,Nat.le_refl _,fun _ _ _=>rfl⟩,.inl rfl⟩
      rcases hown.2 with ⟨rfl,h1⟩ | ⟨g,cap,cur,rfl,_,_,hnc,_⟩
      · simp [Builtin.append_,run_underlying (ht.slice hk),he.size,Builtin.lenOf,Builtin.firstCells]
      · simp [Builtin.append_,run_underlying (ht.slice hk),he.size,Builtin.lenOf,Builtin.firstCells,hnc,storeCells]
theorem op_appendX {c : Call} {x y : Operand} {t e id : Nat} {ti ei : TI} {els els2 : List (List AV)} (ho : o.op = .call c) (hc : c.callee = .builtin .append) (ha : c.args = #[x, y]) (hat : c.argTypes = #[t, t]) (ht : TiOk P t ti) (hk : ti.k = .slice e) (he : TiOk P e ei) (h0 : (ei.n == 0) = false)
    (rd:List Nat) (hx:(∃ep,s.ev x = .row id ep 0 els.length/\s.σ id=⟨ep,some (.row e ei.n els)⟩)\/(s.ev x = .raw (.slice none 0 0)/\els=[]))
    (hy:∀(s':St) W F μ v,(∀i∈rd,s'.σ i=s.σ i)->Inv W F μ s'.σ->Rel W F μ s'.σ (s.ev y) v->Src W F ei.n els2 v)
    (hb:(els.length+els2.length)*ei.sz<=140737488355328) (h63:els.length+els2.length<=9223372036854775807) {r:List (List AV)} (hr:els++els2=r) {n:Nat} (hn:r.length=n) :
    OpLoc P N o s ⟨.row id ((s.σ id).ep+1) 0 n,[(id,⟨(s.σ id).ep+1,some (.row e ei.n r)⟩)],rd⟩:=by
  subst hr hn
  intro s' g1 g2 g3 W F μ a hr K Q hK
  have hid:s'.σ id=s.σ id:=g3 (id,⟨(s.σ id).ep+1,some (.row e ei.n (els++els2))⟩) (by simp)
  have h0' : 0 < ei.n := by have : ¬ ei.n = 0 := by simpa using h0
                            omega
  have opers:o.op.operands.toList=[x,y]:=by rw [ho];simp [Op.operands,Call.operands,hc,ha]
  have ex:=hr.ev x
  rw [g1 x (by rw [opers];simp)] at ex
  have ey:=hr.ev y
  rw [g1 y (by rw [opers];simp)] at ey
  have hsrc:=hy s' W F μ _ g2 hr.inv ey
  have hown:∃cells,W.ownsRow 0 e ei.n (a.eval x) els.length cells/\RowC W F ei.n els cells/\∀g,(a.eval x).ownBlock=some g->(s'.σ id).body.isSome=true/\∃c,μ id=some (g,c):=by
    rcases hx with ⟨ep,hx1,hx2⟩ | ⟨hx1,rfl⟩
    · rw [hx1] at ex
      obtain ⟨cells,h1,h2,h3⟩:=row_owns hr.inv (hid.trans hx2) ex
      exact ⟨cells,h1,h2,fun g hg=>⟨by rw [hid,hx2];rfl,h3 g hg⟩⟩
    · rw [hx1] at ex
      rw [ex.raw']
      exact ⟨[],World.ownsRow_nil W 0 e ei.n,RowC.nil W F ei.n,fun g hg=>by simp [Value.ownBlock] at hg⟩
  obtain ⟨cells,h1,h2,h3⟩:=hown
  obtain ⟨v',W',cells',hrun,ho',⟨news,rfl,hnews⟩,hg,hatb⟩:=append_run (P:=P) (ty:=o.type) (n:=0) ht hk he h0' h1 h2 hsrc hb h63
  have hk':Kp (fun b=>(s'.σ id).body.isSome=true/\∃c,μ id=some (b,c)) W W':=(Kp.refl _ W).grown hg fun k hk=>.inl (h3 k hk)
  -- where the new row lies
  have hp : ∃ p' : Option (Nat × Nat), (∀ b c, p' = some (b, c) -> b < W'.heap.size /\ (W.heap.size <= b \/ ((s'.σ id).body.isSome = true /\ ∃ c', μ id = some (b, c')))) /\
      (∀F μ' σ',RowC W' F ei.n (els++els2) (cells++news)->BodyRel W' F μ' σ' p' (.row e ei.n (els++els2)))/\RowV p' ei.n 0 (els++els2).length (els++els2).length v'/\v'.oneCell'=true:=by
    rcases ho'.2 with ⟨rfl,hz⟩ | ⟨g,cap,cur,rfl,_,hh,r1,r2,r3,r4⟩
    · have e0:=List.eq_nil_of_length_eq_zero hz
      exact ⟨none,fun b c h=>(by cases h),fun F μ' σ' _=>.inl ⟨rfl,e0⟩,⟨by omega,rfl⟩,rfl⟩
    · refine ⟨some (g,cap),fun b c h=>?_,fun F μ' σ' hc=>hc.body hh r1 r2 r3 r4,⟨by omega,by simp⟩,rfl⟩
      obtain ⟨rfl,rfl⟩:g=b/\cap=c:=by simpa using h
      refine ⟨(Array.getElem?_eq_some_iff.1 hh).1,?_⟩
      rcases hatb with h | h
      · exact .inr (h3 g (by rw [<- h];rfl))
      · have:W.heap.size=g:=by simp [Value.ownBlock] at h;exact h.symm
        exact .inl (by omega)
  obtain ⟨p',p1,p2,p3,p4⟩:=hp
  obtain ⟨hs,hi⟩:=inv_turn hr.inv id p' ((s.σ id).ep+1) (.row e ei.n (els++els2)) hk' p1 (.inl (by rw [hid];omega)) (fun hs=>p2 _ _ _ ((h2.append hnews).stp hr.inv hs))
  unfold Oper.wp
  have hrun':(execOp a.eval o).run P W = .ok (.value v') W':=by
    simp only [execOp,ho,resolve,hc,ha,hat,List.map_toArray,List.map_cons,List.map_nil,Sem.run_bind,Sem.run_pure,Result.andThen_ok,invoke,builtin,hrun]
  rw [hrun']
  refine hK W' F (upm μ id p') _ (hr.put hs hi (.row id _ 0 _ _ ?_ p4 fun bd' m' l' hbd hL=>?_)) hs
  · rw [up1_eq,if_pos rfl]
    exact Nat.le_refl _
  · rw [up1_eq,if_pos rfl] at hbd
    obtain rfl:Body.row e ei.n (els++els2)=bd':=by simpa using hbd
    obtain ⟨rfl,rfl⟩:ei.n=m'/\(els++els2).length=l':=by simpa only [Body.rowL,Option.some.injEq,Prod.mk.injEq] using hL
    rw [upm_eq,if_pos rfl]
    exact p3
theorem op_appendR {c:Call} {x y:Operand} {t e id id2 ep2:Nat} {ti ei:TI} {els els2:List (List AV)} (ho:o.op = .call c) (hc:c.callee = .builtin .append) (ha:c.args = #[x,y]) (hat:c.argTypes = #[t,t]) (ht:TiOk P t ti) (hk:ti.k = .slice e) (he:TiOk P e ei) (h0:(ei.n == 0)=false)
  (hx:(∃ep,s.ev x = .row id ep 0 els.length/\s.σ id=⟨ep,some (.row e ei.n els)⟩)\/(s.ev x = .raw (.slice none 0 0)/\els=[]))
  (hy:s.ev y = .row id2 ep2 0 els2.length) (hid2:s.σ id2=⟨ep2,some (.row e ei.n els2)⟩) (hb:(els.length+els2.length)*ei.sz<=140737488355328) (h63:els.length+els2.length<=9223372036854775807) {r:List (List AV)} (hr:els++els2=r) {n:Nat} (hn:r.length=n) :
  OpLoc P N o s ⟨.row id ((s.σ id).ep+1) 0 n,[(id,⟨(s.σ id).ep+1,some (.row e ei.n r)⟩)],[id2]⟩ :=
 op_appendX ho hc ha hat ht hk he h0 [id2] hx (fun s' W F μ v h2 hi hv=>by
  rw [hy] at hv
  exact src_row hi ((h2 id2 (by simp)).trans hid2) hv) hb h63 hr hn
end
end Go.Proofs.YthgbdoofchknhaaGreatDoor.Sm
end
section
namespace Go.Proofs.YthgbdoofchknhaaGreatDoor.Sm
open Go.RowKit
def caA (σ:Sto):AV->Option (List AV × List Nat)
 | .ro cs=>some (cs,[])
 | .own id ep off=>match σ id with
  | ⟨ep',some (.box _ cs)⟩=>cond (Nat.beq ep' ep) (some (cs.drop off,[id])) none
  | _=>none
 | _=>none
theorem caA_ok {σ:Sto} {x:AV} {cs:List AV} {l:List Nat} (h:caA σ x=some (cs,l)):CA σ x cs l:=by
 unfold caA at h
 split at h
 ·simp only [Option.some.injEq,Prod.mk.injEq] at h
  obtain ⟨rfl,rfl⟩:=h
  exact .ro _
 ·split at h
  ·rename_i id ep off sb ep' t cs' e
   cases hb:Nat.beq ep' ep with
   | false=>rw [hb] at h;cases h
   | true =>
    rw [hb,cond_true] at h
    simp only [Option.some.injEq,Prod.mk.injEq] at h
    obtain ⟨rfl,rfl⟩:=h
    obtain rfl:=Nat.eq_of_beq_eq_true hb
    exact .own e
  ·cases h
 ·cases h
def isNilB:AV->Bool
 | .raw (.slice none 0 0)=>true
 | _=>false
theorem isNilB_ok {x:AV} (h:isNilB x=true):x = .raw (.slice none 0 0):=by
 unfold isNilB at h
 split at h
 ·rfl
 ·cases h
theorem cond_none {α:Type} {c:Bool} {x:Option α} {r:α} (h:cond c x none=some r):c=true/\x=some r:=by
 cases c
 ·cases h
 ·exact ⟨rfl,h⟩
def fzA (σ:Sto):Nat->AV->Option (AV × List Nat)
 | 0,_=>none
 | k+1,x=>match x with
  | .b _ | .i _ _ | .u _ | .y _ | .s _ | .sl _ | .ro _ | .any=>some (x,[])
  | .raw v=>cond (isNilB (.raw v)) (some (.sl [],[])) (some (.raw v,[]))
  | .row id ep off n=>match σ id with
   | ⟨ep',some (.row _ _ els)⟩=>cond (Nat.beq ep' ep) (some (.sl ((els.drop off).take n),[id])) none
   | _=>none
  | .own id ep off=>match σ id with
   | ⟨ep',some (.box _ cs)⟩=>cond (Nat.beq ep' ep) (match cs.foldr (fun c acc=>match fzA σ k c,acc with | some (y,l),some (ys,l')=>some (y::ys,l++l') | _,_=>none) (some ([],[])) with
     | some (cs',l)=>some (.ro (cs'.drop off),id::l)
     | none=>none) none
   | _=>none
  | .ref id ep (.sl off n cap)=>match σ id with
   | ⟨ep',some (.box _ cs)⟩=>cond (Nat.beq ep' ep && Nat.ble (off+n) cs.length && Nat.ble n cap && Nat.ble cap 1000000) (match cs.foldr (fun c acc=>match fzA σ k c,acc with | some (y,l),some (ys,l')=>some (y::ys,l++l') | _,_=>none) (some ([],[])) with
     | some (cs',l)=>some (.sl (((cs'.drop off).take n).map fun c=>[c]),id::l)
     | none=>none) none
   | _=>none
  | .agg cs=>match cs.foldr (fun c acc=>match fzA σ k c,acc with | some (y,l),some (ys,l')=>some (y::ys,l++l') | _,_=>none) (some ([],[])) with
   | some (cs',l)=>some (.agg cs',l)
   | none=>none
  | .tup cs=>match cs.foldr (fun c acc=>match fzA σ k c,acc with | some (y,l),some (ys,l')=>some (y::ys,l++l') | _,_=>none) (some ([],[])) with
   | some (cs',l)=>some (.tup cs',l)
   | none=>none
  | .fn f a c=>match a.foldr (fun c acc=>match fzA σ k c,acc with | some (y,l),some (ys,l')=>some (y::ys,l++l') | _,_=>none) (some ([],[])),c.foldr (fun c acc=>match fzA σ k c,acc with | some (y,l),some (ys,l')=>some (y::ys,l++l') | _,_=>none) (some ([],[])) with
   | some (a',l),some (c',l')=>some (.fn f a' c',l++l')
   | _,_=>none
  | _=>none
def fzL (σ:Sto) (k:Nat) (xs:List AV):Option (List AV × List Nat):=xs.foldr (fun c acc=>match fzA σ k c,acc with | some (y,l),some (ys,l')=>some (y::ys,l++l') | _,_=>none) (some ([],[]))
theorem fzL_of {σ:Sto} {k:Nat} (ih:∀{x y:AV} {l:List Nat},fzA σ k x=some (y,l)->Fz σ x y l):∀{xs ys:List AV} {l:List Nat},fzL σ k xs=some (ys,l)->FzL σ xs ys l
 | [],ys,l,h=>by
  simp only [fzL,List.foldr_nil,Option.some.injEq,Prod.mk.injEq] at h
  obtain ⟨rfl,rfl⟩:=h
  exact .nil
 | x::xs,ys,l,h=>by
  unfold fzL at h
  rw [List.foldr_cons] at h
  split at h
  ·rename_i y l1 ys' l2 h1 h2
   simp only [Option.some.injEq,Prod.mk.injEq] at h
   obtain ⟨rfl,rfl⟩:=h
   exact .cons (ih h1) (fzL_of ih h2)
  ·cases h
theorem fzA_ok {σ:Sto}:∀(k:Nat) {x y:AV} {l:List Nat},fzA σ k x=some (y,l)->Fz σ x y l
 | 0,x,y,l,h=>by cases h
 | k+1,x,y,l,h=>by
  have ihl:∀{xs ys:List AV} {l:List Nat},fzL σ k xs=some (ys,l)->FzL σ xs ys l:=fzL_of (fzA_ok k)
  cases x with
  | raw v =>
   simp only [fzA] at h
   cases hb:isNilB (.raw v) with
   | true =>
    rw [hb] at h
    simp only [cond_true,Option.some.injEq,Prod.mk.injEq] at h
    obtain ⟨rfl,rfl⟩:=h
    rw [isNilB_ok hb]
    exact .nils
   | false =>
    rw [hb] at h
    simp only [cond_false,Option.some.injEq,Prod.mk.injEq] at h
    obtain ⟨rfl,rfl⟩:=h
    exact .raw v
  | row id ep off n =>
   simp only [fzA] at h
   split at h
   ·rename_i ep' t m els hs
    obtain ⟨hb,h'⟩:=cond_none h
    clear h
    obtain rfl:=Nat.eq_of_beq_eq_true hb
    simp only [Option.some.injEq,Prod.mk.injEq] at h'
    obtain ⟨rfl,rfl⟩:=h'
    exact .row hs rfl
   ·cases h
  | own id ep off =>
   simp only [fzA] at h
   split at h
   ·rename_i ep' t cs hs
    obtain ⟨hb,h'⟩:=cond_none h
    clear h
    obtain rfl:=Nat.eq_of_beq_eq_true hb
    split at h'
    ·rename_i cs' l' hq
     simp only [Option.some.injEq,Prod.mk.injEq] at h'
     obtain ⟨rfl,rfl⟩:=h'
     exact .own hs (ihl hq)
    ·cases h'
   ·cases h
  | agg cs =>
   simp only [fzA] at h
   split at h
   ·rename_i cs' l' hq
    simp only [Option.some.injEq,Prod.mk.injEq] at h
    obtain ⟨rfl,rfl⟩:=h
    exact .agg (ihl hq)
   ·cases h
  | tup cs =>
   simp only [fzA] at h
   split at h
   ·rename_i cs' l' hq
    simp only [Option.some.injEq,Prod.mk.injEq] at h
    obtain ⟨rfl,rfl⟩:=h
    exact .tup (ihl hq)
   ·cases h
  | fn f a c =>
   simp only [fzA] at h
   split at h
   ·rename_i a' l1 c' l2 hq1 hq2
    simp only [Option.some.injEq,Prod.mk.injEq] at h
    obtain ⟨rfl,rfl⟩:=h
    exact .fn (ihl hq1) (ihl hq2)
   ·cases h
  | ref id ep kd =>
   cases kd with
   | map=>cases h
   | sl off n cap =>
    simp only [fzA] at h
    split at h
    ·rename_i ep' t cs hs
     obtain ⟨hb,h'⟩:=cond_none h
     clear h
     simp only [Bool.and_eq_true] at hb
     obtain ⟨⟨⟨hb,b1⟩,b2⟩,b3⟩:=hb
     obtain rfl:=Nat.eq_of_beq_eq_true hb
     split at h'
     ·rename_i cs' l' hq
      simp only [Option.some.injEq,Prod.mk.injEq] at h'
      obtain ⟨rfl,rfl⟩:=h'
      exact .refsl hs (ihl hq) (Nat.le_of_ble_eq_true b1) (Nat.le_of_ble_eq_true b2) (Nat.le_trans (Nat.le_of_ble_eq_true b3) (by decide))
     ·cases h'
    ·cases h
  | el=>cases h
  | any=>simp only [fzA,Option.some.injEq,Prod.mk.injEq] at h;obtain ⟨rfl,rfl⟩:=h;exact .any
  | b x=>simp only [fzA,Option.some.injEq,Prod.mk.injEq] at h;obtain ⟨rfl,rfl⟩:=h;exact .b x
  | i k n=>simp only [fzA,Option.some.injEq,Prod.mk.injEq] at h;obtain ⟨rfl,rfl⟩:=h;exact .i k n
  | u x=>simp only [fzA,Option.some.injEq,Prod.mk.injEq] at h;obtain ⟨rfl,rfl⟩:=h;exact .u x
  | y x=>simp only [fzA,Option.some.injEq,Prod.mk.injEq] at h;obtain ⟨rfl,rfl⟩:=h;exact .y x
  | s x=>simp only [fzA,Option.some.injEq,Prod.mk.injEq] at h;obtain ⟨rfl,rfl⟩:=h;exact .s x
  | sl x=>simp only [fzA,Option.some.injEq,Prod.mk.injEq] at h;obtain ⟨rfl,rfl⟩:=h;exact .sl x
  | ro x=>simp only [fzA,Option.some.injEq,Prod.mk.injEq] at h;obtain ⟨rfl,rfl⟩:=h;exact .ro x
theorem fzL_ok {σ:Sto} {k:Nat} {xs ys:List AV} {l:List Nat} (h:fzL σ k xs=some (ys,l)):FzL σ xs ys l:=fzL_of (fzA_ok k) h
def chunks {α:Type} (n:Nat):Nat->List α->List (List α)
 | 0,_=>[]
 | k+1,l=>l.take n::chunks n k (l.drop n)
theorem chunks_flat {α:Type} (n:Nat):∀(k:Nat) (l:List α),l.length=k*n->(chunks n k l).flatten=l
 | 0,l,h=>by
  simp only [Nat.zero_mul,List.length_eq_zero_iff] at h
  rw [h];rfl
 | k+1,l,h=>by
  rw [chunks,List.flatten_cons,chunks_flat n k _ (by rw [List.length_drop,h,Nat.add_mul];omega),List.take_append_drop]
theorem chunks_len {α:Type} (n:Nat):∀(k:Nat) (l:List α),(chunks n k l).length=k
 | 0,l=>rfl
 | k+1,l=>by rw [chunks,List.length_cons,chunks_len n k]
def lenA (T:TT) (σ:Sto) (t:Nat) (x:AV):Option Eff :=
 match tget T t with
 | some ti=>match ti.k,x with
  | .slice _,.sl els=>some ⟨.i .i64 els.length,[],[]⟩
  | .slice _,.row id ep off n=>match σ id with
   | ⟨ep',some (.row _ _ _)⟩=>cond (Nat.beq ep' ep) (some ⟨.i .i64 n,[],[id]⟩) none
   | _=>none
  | .slice _,x=>cond (isNilB x) (some ⟨.i .i64 ((0:Nat):Int),[],[]⟩) none
  | .str,.s l=>some ⟨.i .i64 l.length,[],[]⟩
  | _,_=>none
 | none=>none
def newId (B:Nat) (o:Oper):Nat:=match o.dst with | some d=>B+d | none=>B
def stp (T:TT) (B:Nat) (o:Oper) (s:St):Option Eff :=
 match o.op with
 | .move x | .assign x=>some ⟨s.ev x,[],[]⟩
 | .pick c x y=>match s.ev c with
  | .b z=>some ⟨cond z (s.ev x) (s.ev y),[],[]⟩
  | _=>none
 | .binOp op t x y _=>match binA op (s.ev x) (s.ev y) with
  | some r=>some ⟨r,[],[]⟩
  | none=>match s.ev x,s.ev y,op,tget T t with
   | .b p,.b q,.eql,some ⟨.bool,_,_,_⟩=>some ⟨.b (p == q),[],[]⟩
   | .b p,.b q,.neq,some ⟨.bool,_,_,_⟩=>some ⟨.b (!(p == q)),[],[]⟩
   | x,.raw (.pointer none),.eql,some ⟨.ptr,_,_,_⟩=>match nilP s.σ x with
    | some (b,l)=>some ⟨.b b,[],l⟩
    | none=>none
   | x,.raw (.pointer none),.neq,some ⟨.ptr,_,_,_⟩=>match nilP s.σ x with
    | some (b,l)=>some ⟨.b (!b),[],l⟩
    | none=>none
   | x,.raw (.slice none 0 0),.eql,some ⟨.slice _,_,_,_⟩=>match nilS x with
    | some b=>some ⟨.b b,[],[]⟩
    | none=>none
   | x,.raw (.slice none 0 0),.neq,some ⟨.slice _,_,_,_⟩=>match nilS x with
    | some b=>some ⟨.b (!b),[],[]⟩
    | none=>none
   | _,_,_,_=>none
 | .unOp op _ x=>match unA op (s.ev x) with
  | some r=>some ⟨r,[],[]⟩
  | none=>none
 | .extract x i=>match s.ev x with
  | .tup xs=>match xs[i]? with
   | some r=>some ⟨r,[],[]⟩
   | none=>none
  | _=>none
 | .makeFunc (.func f) first caps=>some ⟨.fn f (first.toList.map s.ev) (caps.toList.map s.ev),[],[]⟩
 | .nilCheck x=>match s.ev x with
  | .fn f a c=>some ⟨.fn f a c,[],[]⟩
  | p=>match caA s.σ p with
   | some (_,l)=>some ⟨p,[],l⟩
   | none=>none
 | .load t p=>match tget T t,caA s.σ (s.ev p) with
  | some ti,some (cs,l)=>match ldA ti cs with
   | some r=>some ⟨r,[],l⟩
   | none=>none
  | _,_=>none
 | .fieldAddr t p f=>match tget T t,caA s.σ (s.ev p) with
  | some ⟨.strct fs,_,_,_⟩,some (_,l)=>match fs[f]? with
   | some (ft,off)=>match tget T ft,fldA off (s.ev p) with
    | some fi,some r=>cond (fi.n == 0) none (some ⟨r,[],l⟩)
    | _,_=>none
   | none=>none
  | _,_=>none
 | .indexAddr t x i=>match tget T t,s.ev i,caA s.σ (s.ev x) with
  | some ⟨.arr n e,_,_,_⟩,.i _ (.ofNat k),some (_,l)=>match tget T e with
   | some ei=>match fldA (k*ei.n) (s.ev x) with
    | some r=>cond (Nat.blt k n) (some ⟨r,[],l⟩) none
    | none=>none
   | none=>none
  | _,_,_=>none
 | .field t x f=>match tget T t,s.ev x with
  | some ⟨.strct fs,_,_,_⟩,.agg cs=>match fs[f]? with
   | some (ft,off)=>match tget T ft with
    | some fi=>match prtA fi off cs with
     | some r=>some ⟨r,[],[]⟩
     | none=>none
    | none=>none
   | none=>none
  | _,_=>none
 | .convert t u x=>match tget T t,tget T u with
  | some _,some ⟨.int k,_,_,_⟩=>match cvA k (s.ev x) with
   | some r=>some ⟨r,[],[]⟩
   | none=>none
  | _,_=>none
 | .box t x=>match s.σ (newId B o) with
  | ⟨e,_⟩=>cond ((s.ev x).cells.all AV.one) (some ⟨.own (newId B o) (e+1) 0,[(newId B o,⟨e+1,some (.box t (s.ev x).cells)⟩)],[]⟩) none
 | .alloc t=>match tget T t,s.σ (newId B o) with
  | some ti,⟨e,_⟩=>some ⟨.own (newId B o) (e+1) 0,[(newId B o,⟨e+1,some (.box t ti.z)⟩)],[]⟩
  | none,_=>none
 | .build t parts=>match tget T t with
  | some ⟨.strct fs,n,sz,z⟩=>cond (fs.all fun p=>(tget T p.1).isSome) (match fillA (plS T fs) z (parts.toList.map fun p=>(p.1,s.ev p.2)) with
    | some r=>cond (r.all AV.one) (some ⟨.agg r,[],[]⟩) none
    | none=>none) none
  | _=>none
 | .store t p x=>match tget T t,s.ev p with
  | some ti,.own id ep off=>match s.σ id with
   | ⟨ep',some (.box ty cs)⟩=>cond (Nat.beq ep' ep && (s.ev x).cells.all AV.one && Nat.beq (s.ev x).cells.length ti.n && Nat.ble (off+ti.n) cs.length)
     (some ⟨.tup [],[(id,⟨ep,some (.box ty (ovw cs off (s.ev x).cells))⟩)],[]⟩) none
   | _=>none
  | _,_=>none
 | .buildSlice t len parts=>match tget T t with
  | some ⟨.slice e,_,_,_⟩=>match tget T e,fzL s.σ 6 (parts.toList.map fun p=>s.ev p.2) with
   | some ei,some (xs,l)=>match fillA (fun i=>some (i*ei.n,ei.n)) (List.replicate len ei.z).flatten ((parts.toList.map (·.1)).zip xs) with
    | some r=>match s.σ (newId B o) with
     | ⟨ep,_⟩=>cond (Nat.blt 0 ei.n && Nat.blt 0 len && Nat.ble (len*ei.n) 16777216 && Nat.beq r.length (len*ei.n) && (chunks ei.n len r).all (fun cs=>Nat.beq cs.length ei.n) && (chunks ei.n len r).all (fun cs=>cs.all fun x=>x.one && x.pu1))
      (some ⟨.row (newId B o) (ep+1) 0 len,killS s.σ l++[(newId B o,⟨ep+1,some (.row e ei.n (chunks ei.n len r))⟩)],[]⟩) none
    | none=>none
   | _,_=>none
  | _=>none
 | .call ⟨.builtin .len,args,ats⟩=>match args.toList,ats.toList with
  | [x],[t]=>lenA T s.σ t (s.ev x)
  | _,_=>none
 | .call ⟨.builtin .max,args,ats⟩=>match args.toList,ats.toList with
  | [x,y],[_,_]=>match s.ev x,s.ev y with
   | .i k m,.i _ n=>some ⟨.i k (max m n),[],[]⟩
   | _,_=>none
  | _,_=>none
 | .call ⟨.builtin .min,args,ats⟩=>match args.toList,ats.toList with
  | [x,y],[_,_]=>match s.ev x,s.ev y with
   | .i k m,.i _ n=>some ⟨.i k (min m n),[],[]⟩
   | _,_=>none
  | _,_=>none
 | _=>none
theorem lenA_ok {P:Program} {N:Nat} {T:TT} (hT:tabB P T=true) {o:Oper} {s:St} {c:Call} {x:Operand} {t:Nat} {E:Eff} (ho:o.op = .call c) (hc:c.callee = .builtin .len) (ha:c.args = #[x]) (hat:c.argTypes = #[t]) (h:lenA T s.σ t (s.ev x)=some E):OpLoc P N o s E:=by
 unfold lenA at h
 split at h
 ·rename_i ti hti
  have ht:=tab_ok hT hti
  split at h
  ·rename_i e els hk hx
   obtain rfl:=Option.some.inj h
   exact op_len ho hc ha hat ht hk hx
  ·rename_i e id ep off n hk hx
   split at h
   ·rename_i ep' a b cc hs
    obtain ⟨hb,h⟩:=cond_none h
    obtain rfl:=Option.some.inj h
    obtain rfl:=Nat.eq_of_beq_eq_true hb
    exact op_lenR ho hc ha hat ht hk hx hs
   ·cases h
  ·rename_i hk _ _
   obtain ⟨hb,h⟩:=cond_none h
   obtain rfl:=Option.some.inj h
   exact op_lenN ho hc ha hat ht hk (isNilB_ok hb)
  ·rename_i l hk hx
   obtain rfl:=Option.some.inj h
   exact op_lenS ho hc ha hat ht hk hx
  ·cases h
 ·cases h
theorem arr_one {α:Type} {a:Array α} {x:α} (h:a.toList=[x]):a = #[x]:=by
 apply Array.toList_inj.1
 rw [h]
theorem arr_two {α:Type} {a:Array α} {x y:α} (h:a.toList=[x,y]):a = #[x,y]:=by
 apply Array.toList_inj.1
 rw [h]
theorem stp_plain {T:TT} {B:Nat} {o:Oper} {s:St} {E:Eff} (h:stp T B o s=some E):noDef o=true/\isVal o=false:=by
 obtain ⟨dst,op,ty,pos,after,guard⟩:=o
 cases op with
 | defer c=>simp [stp] at h
 | call c =>
  obtain ⟨callee,args,at'⟩:=c
  cases callee with
  | value f=>simp [stp] at h
  | invoke r n=>simp [stp] at h
  | builtin b=>cases b <;> first | exact ⟨rfl,rfl⟩ | (simp [stp] at h;done)
 | _=>exact ⟨rfl,rfl⟩
theorem stp_ok {P:Program} {N:Nat} {T:TT} (hT:tabB P T=true) {B:Nat} {o:Oper} {s:St} {E:Eff} (h:stp T B o s=some E):OpLoc P N o s E:=by
 unfold stp at h
 split at h
 ·rename_i x ho
  obtain rfl:=Option.some.inj h
  exact op_move ho
 ·rename_i x ho
  obtain rfl:=Option.some.inj h
  exact op_assign ho
 ·rename_i c x y ho
  split at h
  ·rename_i z hz
   obtain rfl:=Option.some.inj h
   exact op_pick ho hz
  ·cases h
 ·rename_i op t x y yt ho
  split at h
  ·rename_i r hr
   obtain rfl:=Option.some.inj h
   exact op_bin ho hr
  ·split at h
   ·rename_i p q n sz z hx hy ht _
    obtain rfl:=Option.some.inj h
    exact op_eqB ho (tab_ok hT ht) rfl hx hy (.inl ⟨rfl,rfl⟩)
   ·rename_i p q n sz z hx hy ht _
    obtain rfl:=Option.some.inj h
    exact op_eqB ho (tab_ok hT ht) rfl hx hy (.inr ⟨rfl,rfl⟩)
   ·rename_i hy ht _
    split at h
    ·rename_i b l hn
     obtain rfl:=Option.some.inj h
     exact op_eqP ho (tab_ok hT ht) rfl hn hy (.inl ⟨rfl,rfl⟩)
    ·cases h
   ·rename_i hy ht _
    split at h
    ·rename_i b l hn
     obtain rfl:=Option.some.inj h
     exact op_eqP ho (tab_ok hT ht) rfl hn hy (.inr ⟨rfl,rfl⟩)
    ·cases h
   ·rename_i hy ht _
    split at h
    ·rename_i b hn
     obtain rfl:=Option.some.inj h
     exact op_eqSl ho (tab_ok hT ht) rfl hn hy (.inl ⟨rfl,rfl⟩)
    ·cases h
   ·rename_i hy ht _
    split at h
    ·rename_i b hn
     obtain rfl:=Option.some.inj h
     exact op_eqSl ho (tab_ok hT ht) rfl hn hy (.inr ⟨rfl,rfl⟩)
    ·cases h
   ·cases h
 ·rename_i op t x ho
  split at h
  ·rename_i r hr
   obtain rfl:=Option.some.inj h
   exact op_un ho hr
  ·cases h
 ·rename_i x i ho
  split at h
  ·rename_i xs hx
   split at h
   ·rename_i r hr
    obtain rfl:=Option.some.inj h
    exact op_extract ho hx hr
   ·cases h
  ·cases h
 ·rename_i f first caps ho
  obtain rfl:=Option.some.inj h
  exact op_makeFunc ho
 ·rename_i x ho
  split at h
  ·rename_i f a c hx
   obtain rfl:=Option.some.inj h
   rw [<- hx]
   exact op_nilCheckF ho hx
  ·split at h
   ·rename_i cs l hc
    obtain rfl:=Option.some.inj h
    exact op_nilCheck ho (caA_ok hc)
   ·cases h
 ·rename_i t p ho
  split at h
  ·rename_i ti cs l ht hc
   split at h
   ·rename_i r hr
    obtain rfl:=Option.some.inj h
    exact op_load ho (tab_ok hT ht) (caA_ok hc) hr
   ·cases h
  ·cases h
 ·rename_i t p f ho
  split at h
  ·rename_i fs n sz z cs l ht hc
   split at h
   ·rename_i ft off hf
    split at h
    ·rename_i fi r hfi hr
     cases hb:(fi.n == 0) with
     | true=>rw [hb] at h;cases h
     | false =>
      rw [hb,cond_false] at h
      obtain rfl:=Option.some.inj h
      exact op_fieldAddr ho (tab_ok hT ht) rfl hf (tab_ok hT hfi) hb (caA_ok hc) hr
    ·cases h
   ·cases h
  ·cases h
 ·rename_i t x i ho
  split at h
  ·rename_i n e sz nn z kd k cs l ht hi hc
   split at h
   ·rename_i ei hei
    split at h
    ·rename_i r hr
     obtain ⟨hb,h⟩:=cond_none h
     obtain rfl:=Option.some.inj h
     exact op_indexA ho (tab_ok hT ht) rfl (tab_ok hT hei) hi (Nat.le_of_ble_eq_true hb) (caA_ok hc) hr
    ·cases h
   ·cases h
  ·cases h
 ·rename_i t x f ho
  split at h
  ·rename_i fs n sz z cs ht hx
   split at h
   ·rename_i ft off hf
    split at h
    ·rename_i fi hfi
     split at h
     ·rename_i r hr
      obtain rfl:=Option.some.inj h
      exact op_field ho (tab_ok hT ht) rfl hf (tab_ok hT hfi) hx hr
     ·cases h
    ·cases h
   ·cases h
  ·cases h
 ·rename_i t u x ho
  split at h
  ·rename_i ti k n sz z ht hu
   split at h
   ·rename_i r hr
    obtain rfl:=Option.some.inj h
    exact op_conv ho (tab_ok hT ht) (tab_ok hT hu) rfl hr
   ·cases h
  ·cases h
 ·rename_i t x ho
  split at h
  rename_i e bd hs
  obtain ⟨hb,h⟩:=cond_none h
  obtain rfl:=Option.some.inj h
  have he:(s.σ (newId B o)).ep=e:=by rw [hs]
  rw [<- he]
  exact op_box ho rfl hb
 ·rename_i t ho
  split at h
  ·rename_i ti e bd ht hs
   obtain rfl:=Option.some.inj h
   have he:(s.σ (newId B o)).ep=e:=by rw [hs]
   rw [<- he]
   exact op_alloc ho (tab_ok hT ht)
  ·cases h
 ·rename_i t parts ho
  split at h
  ·rename_i fs n sz z ht
   obtain ⟨hb,h⟩:=cond_none h
   split at h
   ·rename_i r hr
    obtain ⟨hb',h⟩:=cond_none h
    obtain rfl:=Option.some.inj h
    exact op_build hT ho ht rfl hb hr hb'
   ·cases h
  ·cases h
 ·rename_i t p x ho
  split at h
  ·rename_i ti id ep off ht hp
   split at h
   ·rename_i ep' ty cs hs
    obtain ⟨hb,h⟩:=cond_none h
    obtain rfl:=Option.some.inj h
    simp only [Bool.and_eq_true] at hb
    obtain ⟨⟨⟨h1,h2⟩,h3⟩,h4⟩:=hb
    obtain rfl:=Nat.eq_of_beq_eq_true h1
    exact op_store ho (tab_ok hT ht) hp hs rfl h2 (Nat.eq_of_beq_eq_true h3) (Nat.le_of_ble_eq_true h4)
   ·cases h
  ·cases h
 ·rename_i t len parts ho
  split at h
  ·rename_i e n0 sz z ht
   split at h
   ·rename_i ei xs l hei hz
    split at h
    ·rename_i r hr
     split at h
     rename_i ep bd hs
     obtain ⟨hb,h⟩:=cond_none h
     obtain rfl:=Option.some.inj h
     simp only [Bool.and_eq_true] at hb
     obtain ⟨⟨⟨⟨⟨h1,h2⟩,h3⟩,h4⟩,h5⟩,h6⟩:=hb
     have he:(s.σ (newId B o)).ep=ep:=by rw [hs]
     rw [<- he]
     have g1:0<ei.n:=Nat.le_of_ble_eq_true h1
     exact op_buildSlice ho (tab_ok hT ht) rfl (tab_ok hT hei) (by simpa using Nat.ne_of_gt g1) (Nat.le_of_ble_eq_true h2) (Nat.le_of_ble_eq_true h3) (fzL_ok hz) (by rw [hr,chunks_flat _ _ _ (Nat.eq_of_beq_eq_true h4)]) (chunks_len _ _ _) h5 h6
    ·cases h
   ·cases h
  ·cases h
 ·rename_i args ats ho
  split at h
  ·rename_i x t ha hat
   exact lenA_ok hT ho rfl (arr_one ha) (arr_one hat) h
  ·cases h
 ·rename_i args ats ho
  split at h
  ·rename_i x y t u ha hat
   split at h
   ·rename_i k m k' n hx hy
    obtain rfl:=Option.some.inj h
    exact op_mm ho rfl (arr_two ha) (arr_two hat) hx hy (.inl ⟨rfl,rfl⟩)
   ·cases h
  ·cases h
 ·rename_i args ats ho
  split at h
  ·rename_i x y t u ha hat
   split at h
   ·rename_i k m k' n hx hy
    obtain rfl:=Option.some.inj h
    exact op_mm ho rfl (arr_two ha) (arr_two hat) hx hy (.inr ⟨rfl,rfl⟩)
   ·cases h
  ·cases h
 ·cases h
def RG (P:Program) (N:Nat) (ops:Array Oper) (rest:List Oper) (s:St) (K:St->List Eff->Prop):Prop:=∃Es s',Chain P N ops rest s Es s'/\K s' Es
section
variable {P : Program} {N : Nat} {ops : Array Oper} {rest : List Oper} {s : St} {K : St -> List Eff -> Prop} {o : Oper}
theorem RG.nil (h:K s []):RG P N ops [] s K:=⟨[],s,.nil s,h⟩
theorem RG.opB {E:Eff} (hg:gd ops s o=some true) (hb:Cbd P o s) (h:OpLoc P N o s E) (hr:RG P N ops rest (E.ap N o.dst s) fun s' Es=>K s' (E::Es)):RG P N ops (o::rest) s K:=by
 obtain ⟨Es,s',hc,hk⟩:=hr
 exact ⟨E::Es,s',.op hg hb h hc,hk⟩
theorem RG.op {E:Eff} (hv:isVal o=false) (hg:gd ops s o=some true) (h:OpLoc P N o s E) (hr:RG P N ops rest (E.ap N o.dst s) fun s' Es=>K s' (E::Es)):RG P N ops (o::rest) s K:=RG.opB hg (.inl hv) h hr
theorem RG.skip (hg:gd ops s o=some false) (hr:RG P N ops rest (Eff.skip.ap N o.dst s) fun s' Es=>K s' (Eff.skip::Es)):RG P N ops (o::rest) s K:=by
 obtain ⟨Es,s',hc,hk⟩:=hr
 exact ⟨_::Es,s',.skip hg hc,hk⟩
end
theorem RG.id {P:Program} {N:Nat} {ops:Array Oper} {rest:List Oper} {s:St} {K:St->List Eff->Prop} (h:RG P N ops rest s K):RG P N ops rest s K:=h
section
variable {β : Type}
def force1 (x:AV) (k:AV->β):β :=
 match x with
 | .b p=>k (.b p)
 | .i a n=>k (.i a n)
 | .u a=>k (.u a)
 | .y a=>k (.y a)
 | .s l=>k (.s l)
 | .raw v=>k (.raw v)
 | .sl e=>k (.sl e)
 | .ro c=>k (.ro c)
 | .agg c=>k (.agg c)
 | .tup c=>k (.tup c)
 | .fn f a c=>k (.fn f a c)
 | .own i e o=>k (.own i e o)
 | .el i e a b=>k (.el i e a b)
 | .row i e a b=>k (.row i e a b)
 | .ref i e a=>k (.ref i e a)
 | .any=>k .any
theorem force1_eq (x:AV) (k:AV->β):force1 x k=k x:=by cases x <;> rfl
def forceL:List AV->(List AV->β)->β
 | [],k=>k []
 | x::xs,k=>force1 x fun y=>forceL xs fun ys=>k (y::ys)
theorem forceL_eq:∀(l:List AV) (k:List AV->β),forceL l k=k l
 | [],_=>rfl
 | x::xs,k=>by rw [forceL,force1_eq,forceL_eq xs]
def force2 (x:AV) (k:AV->β):β :=
 match x with
 | .agg c=>forceL c fun c=>k (.agg c)
 | .ro c=>forceL c fun c=>k (.ro c)
 | x=>force1 x k
theorem force2_eq (x:AV) (k:AV->β):force2 x k=k x:=by cases x <;> first | rfl | exact forceL_eq _ _
def force2L:List AV->(List AV->β)->β
 | [],k=>k []
 | x::xs,k=>force2 x fun y=>force2L xs fun ys=>k (y::ys)
theorem force2L_eq:∀(l:List AV) (k:List AV->β),force2L l k=k l
 | [],_=>rfl
 | x::xs,k=>by rw [force2L,force2_eq,force2L_eq xs]
def force (x:AV) (k:AV->β):β :=
 match x with
 | .tup c=>force2L c fun c=>k (.tup c)
 | .fn f a c=>forceL a fun a=>forceL c fun c=>k (.fn f a c)
 | x=>force2 x k
theorem force_eq (x:AV) (k:AV->β):force x k=k x:=by
 cases x with
 | tup c=>exact force2L_eq c _
 | fn f a c=>simp only [force,forceL_eq]
 | agg c=>exact forceL_eq c _
 | ro c=>exact forceL_eq c _
 | _=>rfl
def forceU:List (Nat × SB)->(List (Nat × SB)->β)->β
 | [],k=>k []
 | (id,⟨e,some (.box t cs)⟩)::l,k=>forceL cs fun cs=>forceU l fun l=>k ((id,⟨e,some (.box t cs)⟩)::l)
 | (id,⟨e,some (.row t m els)⟩)::l,k=>forceU l fun l=>k ((id,⟨e,some (.row t m els)⟩)::l)
 | (id,⟨e,none⟩)::l,k=>forceU l fun l=>k ((id,⟨e,none⟩)::l)
 | (id,⟨e,some (.ghost a b q)⟩)::l,k=>forceU l fun l=>k ((id,⟨e,some (.ghost a b q)⟩)::l)
 | (id,⟨e,some (.obj o)⟩)::l,k=>forceU l fun l=>k ((id,⟨e,some (.obj o)⟩)::l)
 | (id,⟨e,some (.nest t o)⟩)::l,k=>forceU l fun l=>k ((id,⟨e,some (.nest t o)⟩)::l)
theorem forceU_eq:∀(l:List (Nat × SB)) (k:List (Nat × SB)->β),forceU l k=k l
 | [],_=>rfl
 | (id,⟨e,some (.box t cs)⟩)::l,k=>by rw [forceU,forceL_eq,forceU_eq l]
 | (id,⟨e,some (.row t m els)⟩)::l,k=>by rw [forceU,forceU_eq l]
 | (id,⟨e,none⟩)::l,k=>by rw [forceU,forceU_eq l]
 | (id,⟨e,some (.ghost a b q)⟩)::l,k=>by rw [forceU,forceU_eq l]
 | (id,⟨e,some (.obj o)⟩)::l,k=>by rw [forceU,forceU_eq l]
 | (id,⟨e,some (.nest t o)⟩)::l,k=>by rw [forceU,forceU_eq l]
def forceD (d:Option Nat) (k:Option Nat->β):β :=
 match d with
 | none=>k none
 | some d=>k (some d)
theorem forceD_eq (d:Option Nat) (k:Option Nat->β):forceD d k=k d:=by cases d <;> rfl
end
def runS (T:TT) (B N:Nat) (ops:Array Oper):Nat->List Oper->St->List Eff->List Oper × St × List Eff
 | 0,rest,s,acc=>(rest,s,acc)
 | _+1,[],s,acc=>([],s,acc)
 | k+1,o::rest,⟨ts,σ⟩,acc=>match o.guard with
  | none=>match stp T B o ⟨ts,σ⟩ with
   | some ⟨v,up,rd⟩=>force v fun v=>forceU up fun up=>forceD o.dst fun d=>runS T B N ops k rest ⟨putS N ts d v,ups σ up⟩ (⟨v,up,rd⟩::acc)
   | none=>(o::rest,⟨ts,σ⟩,acc)
  | some _=>(o::rest,⟨ts,σ⟩,acc)
theorem RG.runX {P:Program} {N:Nat} {T:TT} (hT:tabB P T=true) (B:Nat) {ops:Array Oper} (k:Nat):∀{rest:List Oper} {s:St} {K:St->List Eff->Prop} {acc:List Eff} {r:List Oper} {s':St} {Es:List Eff},runS T B N ops k rest s acc=(r,s',Es)->RG P N ops r s' (fun s'' Fs=>K s'' (Es.reverseAux Fs))->RG P N ops rest s (fun s'' Fs=>K s'' (acc.reverseAux Fs)):=by
 induction k with
 | zero =>
  intro rest s K acc r s' Es h hr
  simp only [runS,Prod.mk.injEq] at h
  obtain ⟨rfl,rfl,rfl⟩:=h
  exact hr
 | succ k ih =>
  intro rest s K acc r s' Es h hr
  cases rest with
  | nil =>
   simp only [runS,Prod.mk.injEq] at h
   obtain ⟨rfl,rfl,rfl⟩:=h
   exact hr
  | cons o rest =>
   obtain ⟨ts,σ⟩:=s
   have stay:(o::rest,(⟨ts,σ⟩:St),acc)=(r,s',Es)->RG P N ops (o::rest) ⟨ts,σ⟩ (fun s'' Fs=>K s'' (acc.reverseAux Fs)):=fun h=>by
    simp only [Prod.mk.injEq] at h
    obtain ⟨rfl,rfl,rfl⟩:=h
    exact hr
   simp only [runS] at h
   split at h
   ·rename_i hg
    split at h
    ·rename_i v up rd hE
     rw [force_eq,forceU_eq,forceD_eq] at h
     exact RG.op (stp_plain hE).2 (by unfold gd gd0;rw [hg,(stp_plain hE).1];rfl) (stp_ok hT hE) (ih (K:=K) (acc:=⟨v,up,rd⟩::acc) h hr)
    ·exact stay h
   ·exact stay h
theorem RG.run {P:Program} {N:Nat} {T:TT} (hT:tabB P T=true) (B:Nat) {ops:Array Oper} (k:Nat) {rest:List Oper} {s:St} {K:St->List Eff->Prop} {r:List Oper} {s':St} {Es:List Eff} (h:runS T B N ops k rest s []=(r,s',Es)) (hr:RG P N ops r s' (fun s'' Fs=>K s'' (Es.reverseAux Fs))):RG P N ops rest s K :=
 RG.runX hT B k (K:=K) (acc:=[]) h hr
def runF (T:TT) (B N:Nat) (ops:Array Oper):Nat->List Oper->St->List Eff->List Oper × St × List Eff
 | 0,rest,s,acc=>(rest,s,acc)
 | _+1,[],s,acc=>([],s,acc)
 | k+1,o::rest,⟨ts,σ⟩,acc=>match gd ops ⟨ts,σ⟩ o with
  | some true=>match stp T B o ⟨ts,σ⟩ with
   | some ⟨v,up,rd⟩=>force v fun v=>forceU up fun up=>forceD o.dst fun d=>runF T B N ops k rest ⟨putS N ts d v,ups σ up⟩ (⟨v,up,rd⟩::acc)
   | none=>(o::rest,⟨ts,σ⟩,acc)
  | some false=>forceD o.dst fun d=>runF T B N ops k rest ⟨putS N ts d (.tup []),σ⟩ (Eff.skip::acc)
  | none=>(o::rest,⟨ts,σ⟩,acc)
theorem RG.runFX {P:Program} {N:Nat} {T:TT} (hT:tabB P T=true) (B:Nat) {ops:Array Oper} (k:Nat):∀{rest:List Oper} {s:St} {K:St->List Eff->Prop} {acc:List Eff} {r:List Oper} {s':St} {Es:List Eff},runF T B N ops k rest s acc=(r,s',Es)->RG P N ops r s' (fun s'' Fs=>K s'' (Es.reverseAux Fs))->RG P N ops rest s (fun s'' Fs=>K s'' (acc.reverseAux Fs)):=by
 induction k with
 | zero =>
  intro rest s K acc r s' Es h hr
  simp only [runF,Prod.mk.injEq] at h
  obtain ⟨rfl,rfl,rfl⟩:=h
  exact hr
 | succ k ih =>
  intro rest s K acc r s' Es h hr
  cases rest with
  | nil =>
   simp only [runF,Prod.mk.injEq] at h
   obtain ⟨rfl,rfl,rfl⟩:=h
   exact hr
  | cons o rest =>
   obtain ⟨ts,σ⟩:=s
   have stay:(o::rest,(⟨ts,σ⟩:St),acc)=(r,s',Es)->RG P N ops (o::rest) ⟨ts,σ⟩ (fun s'' Fs=>K s'' (acc.reverseAux Fs)):=fun h=>by
    simp only [Prod.mk.injEq] at h
    obtain ⟨rfl,rfl,rfl⟩:=h
    exact hr
   simp only [runF] at h
   split at h
   ·rename_i hg
    split at h
    ·rename_i v up rd hE
     rw [force_eq,forceU_eq,forceD_eq] at h
     exact RG.op (stp_plain hE).2 hg (stp_ok hT hE) (ih (K:=K) (acc:=⟨v,up,rd⟩::acc) h hr)
    ·exact stay h
   ·rename_i hg
    rw [forceD_eq] at h
    exact RG.skip hg (ih (K:=K) (acc:=Eff.skip::acc) h hr)
   ·exact stay h
theorem RG.runG {P:Program} {N:Nat} {T:TT} (hT:tabB P T=true) (B:Nat) {ops:Array Oper} (k:Nat) {rest:List Oper} {s:St} {K:St->List Eff->Prop} {r:List Oper} {s':St} {Es:List Eff} (h:runF T B N ops k rest s []=(r,s',Es)) (hr:RG P N ops r s' (fun s'' Fs=>K s'' (Es.reverseAux Fs))):RG P N ops rest s K :=
 RG.runFX hT B k (K:=K) (acc:=[]) h hr
def lkR:List (Nat × AV)->Option Nat->Option AV
 | [],_=>none
 | _,none=>none
 | p::l,some d=>cond (Nat.beq p.1 d) (some p.2) (lkR l (some d))
def Obs:List (AV × AV)->Prop
 | []=>True
 | p::l=>p.1=p.2/\Obs l
def runR (T:TT) (B N:Nat) (R:List (Nat × AV)) (ops:Array Oper):Nat->List Oper->St->List Eff->List (AV × AV)->List Oper × St × List Eff × List (AV × AV)
 | 0,rest,s,acc,ob=>(rest,s,acc,ob)
 | _+1,[],s,acc,ob=>([],s,acc,ob)
 | k+1,o::rest,⟨ts,σ⟩,acc,ob=>match gd ops ⟨ts,σ⟩ o with
  | some true=>match stp T B o ⟨ts,σ⟩ with
   | some ⟨v,up,rd⟩=>match lkR R o.dst with
    | none=>force v fun v=>forceU up fun up=>forceD o.dst fun d=>runR T B N R ops k rest ⟨putS N ts d v,ups σ up⟩ (⟨v,up,rd⟩::acc) ob
    | some y=>forceU up fun up=>forceD o.dst fun d=>runR T B N R ops k rest ⟨putS N ts d y,ups σ up⟩ (⟨y,up,rd⟩::acc) ((v,y)::ob)
   | none=>(o::rest,⟨ts,σ⟩,acc,ob)
  | some false=>forceD o.dst fun d=>runR T B N R ops k rest ⟨putS N ts d (.tup []),σ⟩ (Eff.skip::acc) ob
  | none=>(o::rest,⟨ts,σ⟩,acc,ob)
theorem runR_ob {T:TT} {B N:Nat} {R:List (Nat × AV)} {ops:Array Oper} (k:Nat):∀{rest:List Oper} {s:St} {acc:List Eff} {ob:List (AV × AV)} {r:List Oper} {s':St} {Es:List Eff} {ob':List (AV × AV)},runR T B N R ops k rest s acc ob=(r,s',Es,ob')->Obs ob'->Obs ob:=by
 induction k with
 | zero =>
  intro rest s acc ob r s' Es ob' h ho
  simp only [runR,Prod.mk.injEq] at h
  obtain ⟨_,_,_,rfl⟩:=h
  exact ho
 | succ k ih =>
  intro rest s acc ob r s' Es ob' h ho
  cases rest with
  | nil =>
   simp only [runR,Prod.mk.injEq] at h
   obtain ⟨_,_,_,rfl⟩:=h
   exact ho
  | cons o rest =>
   obtain ⟨ts,σ⟩:=s
   have stay:(o::rest,(⟨ts,σ⟩:St),acc,ob)=(r,s',Es,ob')->Obs ob:=fun h=>by
    simp only [Prod.mk.injEq] at h
    obtain ⟨_,_,_,rfl⟩:=h
    exact ho
   simp only [runR] at h
   split at h
   ·split at h
    ·split at h
     ·rw [force_eq,forceU_eq,forceD_eq] at h
      exact ih h ho
     ·rw [forceU_eq,forceD_eq] at h
      exact (ih h ho).2
    ·exact stay h
   ·rw [forceD_eq] at h
    exact ih h ho
   ·exact stay h
theorem RG.runRX {P:Program} {N:Nat} {T:TT} (hT:tabB P T=true) (B:Nat) {R:List (Nat × AV)} {ops:Array Oper} (k:Nat):∀{rest:List Oper} {s:St} {K:St->List Eff->Prop} {acc:List Eff} {ob:List (AV × AV)} {r:List Oper} {s':St} {Es:List Eff} {ob':List (AV × AV)},runR T B N R ops k rest s acc ob=(r,s',Es,ob')->Obs ob'->RG P N ops r s' (fun s'' Fs=>K s'' (Es.reverseAux Fs))->RG P N ops rest s (fun s'' Fs=>K s'' (acc.reverseAux Fs)):=by
 induction k with
 | zero =>
  intro rest s K acc ob r s' Es ob' h ho hr
  simp only [runR,Prod.mk.injEq] at h
  obtain ⟨rfl,rfl,rfl,rfl⟩:=h
  exact hr
 | succ k ih =>
  intro rest s K acc ob r s' Es ob' h ho hr
  cases rest with
  | nil =>
   simp only [runR,Prod.mk.injEq] at h
   obtain ⟨rfl,rfl,rfl,rfl⟩:=h
   exact hr
  | cons o rest =>
   obtain ⟨ts,σ⟩:=s
   have stay:(o::rest,(⟨ts,σ⟩:St),acc,ob)=(r,s',Es,ob')->RG P N ops (o::rest) ⟨ts,σ⟩ (fun s'' Fs=>K s'' (acc.reverseAux Fs)):=fun h=>by
    simp only [Prod.mk.injEq] at h
    obtain ⟨rfl,rfl,rfl,rfl⟩:=h
    exact hr
   simp only [runR] at h
   split at h
   ·rename_i hg
    split at h
    ·rename_i v up rd hE
     split at h
     ·rw [force_eq,forceU_eq,forceD_eq] at h
      exact RG.op (stp_plain hE).2 hg (stp_ok hT hE) (ih (K:=K) (acc:=⟨v,up,rd⟩::acc) h ho hr)
     ·rename_i y hy
      rw [forceU_eq,forceD_eq] at h
      have e:v=y:=(runR_ob k h ho).1
      subst e
      exact RG.op (stp_plain hE).2 hg (stp_ok hT hE) (ih (K:=K) (acc:=⟨v,up,rd⟩::acc) h ho hr)
    ·exact stay h
   ·rename_i hg
    rw [forceD_eq] at h
    exact RG.skip hg (ih (K:=K) (acc:=Eff.skip::acc) h ho hr)
   ·exact stay h
theorem RG.runO {P:Program} {N:Nat} {T:TT} (hT:tabB P T=true) (B:Nat) (R:List (Nat × AV)) {ops:Array Oper} (k:Nat) {rest:List Oper} {s:St} {K:St->List Eff->Prop} {r:List Oper} {s':St} {Es:List Eff} {ob:List (AV × AV)} (h:runR T B N R ops k rest s [] []=(r,s',Es,ob)) (ho:Obs ob) (hr:RG P N ops r s' (fun s'' Fs=>K s'' (Es.reverseAux Fs))):RG P N ops rest s K :=
 RG.runRX hT B k (K:=K) (acc:=[]) (ob:=[]) h ho hr
theorem AW.text {P:Program} {N id:Nat} {ops:Array Oper} {Q:Exit->St->Prop} {s:St} (h:RG P N ops ops.toList s fun s' _=>Q .normal s'):AW P N (.region id ops false) Q s:=by
 obtain ⟨Es,s',hc,hk⟩:=h
 exact AW.region_text hc hk
theorem AW.draws {P:Program} (hm:P.follows .mixedOrders=true) {N id:Nat} {ops:Array Oper} {Q:Exit->St->Prop} {s:St} (h:RG P N ops ops.toList s fun s' Es=>orderOk ops (ops.toList.zip Es)=true/\Q .normal s'):AW P N (.region id ops true) Q s:=by
 obtain ⟨Es,s',hc,ho,hk⟩:=h
 exact AW.region_any hm hc ho hk
section
variable {β : Type}
def forceN:Nat->(Nat->β)->β
 | 0,k=>k 0
 | n+1,k=>forceN n fun m=>k (m+1)
theorem forceN_eq:∀(n:Nat) (k:Nat->β),forceN n k=k n
 | 0,k=>rfl
 | n+1,k=>forceN_eq n _
def forceC (x:AV) (k:AV->β):β :=
 match x with
 | .own i e o=>forceN e fun e=>forceN o fun o=>k (.own i e o)
 | .el i e a b=>forceN e fun e=>k (.el i e a b)
 | .row i e a b=>forceN e fun e=>k (.row i e a b)
 | .ref i e a=>forceN e fun e=>k (.ref i e a)
 | x=>force1 x k
theorem forceC_eq (x:AV) (k:AV->β):forceC x k=k x:=by
 cases x <;> simp only [forceC,forceN_eq,force1_eq]
def forceCL:List AV->(List AV->β)->β
 | [],k=>k []
 | x::xs,k=>forceC x fun y=>forceCL xs fun ys=>k (y::ys)
theorem forceCL_eq:∀(l:List AV) (k:List AV->β),forceCL l k=k l
 | [],_=>rfl
 | x::xs,k=>by simp only [forceCL,forceC_eq,forceCL_eq xs]
def forceV (x:AV) (k:AV->β):β :=
 match x with
 | .agg c=>forceCL c fun c=>k (.agg c)
 | .tup c=>forceCL c fun c=>k (.tup c)
 | x=>forceC x k
theorem forceV_eq (x:AV) (k:AV->β):forceV x k=k x:=by
 cases x <;> simp only [forceV,forceC_eq,forceCL_eq]
def forceUN:List (Nat × SB)->(List (Nat × SB)->β)->β
 | [],k=>k []
 | (id,⟨e,some (.box t cs)⟩)::l,k=>forceN e fun e=>forceCL cs fun cs=>forceUN l fun l=>k ((id,⟨e,some (.box t cs)⟩)::l)
 | (id,⟨e,some (.row t m els)⟩)::l,k=>forceN e fun e=>forceUN l fun l=>k ((id,⟨e,some (.row t m els)⟩)::l)
 | (id,⟨e,none⟩)::l,k=>forceN e fun e=>forceUN l fun l=>k ((id,⟨e,none⟩)::l)
 | (id,⟨e,some (.ghost a b q)⟩)::l,k=>forceN e fun e=>forceUN l fun l=>k ((id,⟨e,some (.ghost a b q)⟩)::l)
 | (id,⟨e,some (.obj o)⟩)::l,k=>forceN e fun e=>forceUN l fun l=>k ((id,⟨e,some (.obj o)⟩)::l)
 | (id,⟨e,some (.nest t o)⟩)::l,k=>forceN e fun e=>forceUN l fun l=>k ((id,⟨e,some (.nest t o)⟩)::l)
theorem forceUN_eq:∀(l:List (Nat × SB)) (k:List (Nat × SB)->β),forceUN l k=k l
 | [],_=>rfl
 | (id,⟨e,some (.box t cs)⟩)::l,k=>by simp only [forceUN,forceN_eq,forceCL_eq,forceUN_eq l]
 | (id,⟨e,some (.row t m els)⟩)::l,k=>by simp only [forceUN,forceN_eq,forceUN_eq l]
 | (id,⟨e,none⟩)::l,k=>by simp only [forceUN,forceN_eq,forceUN_eq l]
 | (id,⟨e,some (.ghost a b q)⟩)::l,k=>by simp only [forceUN,forceN_eq,forceUN_eq l]
 | (id,⟨e,some (.obj o)⟩)::l,k=>by simp only [forceUN,forceN_eq,forceUN_eq l]
 | (id,⟨e,some (.nest t o)⟩)::l,k=>by simp only [forceUN,forceN_eq,forceUN_eq l]
end
def argsA (s:St) (c:Call):Option (FuncId × List AV) :=
 match c.callee with
 | .value fop=>match s.ev fop with
  | .fn f first caps=>some (f,first++(c.args.toList.map s.ev++caps))
  | _=>none
 | _=>none
section
variable {P : Program} {N : Nat} {ops : Array Oper} {rest : List Oper} {s : St} {K : St -> List Eff -> Prop} {o : Oper}
theorem RG.opx {E:Eff} {d:Option Nat} (hg:gd ops s o=some true) (h:OpLoc P N o s E) (hd:o.dst=d) (hr:RG P N ops rest ⟨putS N s.ts d E.val,ups s.σ E.up⟩ fun s' Es=>K s' (E::Es)) (hv:isVal o=false:=by rfl):RG P N ops (o::rest) s K:=by
  subst hd
  exact RG.op hv hg h hr
theorem RG.call {c:Call} {f:FuncId} {xs ys zs:List AV} {l:List Nat} {r:AV} (hg:gd ops s o=some true) (ho:o.op = .call c) (ha:argsA s c=some (f,xs)) (hz:fzL s.σ 6 xs=some (ys,l)) (hy:ys=zs) (h:PDoes P f zs r) (hflat:r.flat=true)
  {d:Option Nat} (hd:o.dst=d) (hr:RG P N ops rest ⟨putS N s.ts d r,s.σ⟩ fun s' Es=>K s' (⟨r,[],l⟩::Es)):RG P N ops (o::rest) s K:=by
 subst hy hd
 unfold argsA at ha
 split at ha
 ·rename_i fop hc
  split at ha
  ·rename_i f' first caps hf
   simp only [Option.some.injEq,Prod.mk.injEq] at ha
   obtain ⟨rfl,rfl⟩:=ha
   exact RG.opB hg (h.bd ho hc hf) (oploc_call ho hc hf (fzL_ok hz) h hflat) hr
  ·cases ha
 ·cases ha
theorem RG.callM {c:Call} {f:FuncId} {xs ys zs:List AV} {l:List Nat} {r:AV} (hg:gd ops s o=some true) (ho:o.op = .call c) (ha:argsA s c=some (f,xs)) (hz:fzL s.σ 6 xs=some (ys,l)) (hy:ys=zs) (h:PDoes P f zs r)
  {d:Option Nat} (hd:o.dst=d) (hr:RG P N ops rest ⟨putS N s.ts d r,ups s.σ (killS s.σ l)⟩ fun s' Es=>K s' (⟨r,killS s.σ l,[]⟩::Es)):RG P N ops (o::rest) s K:=by
 subst hy hd
 unfold argsA at ha
 split at ha
 ·rename_i fop hc
  split at ha
  ·rename_i f' first caps hf
   simp only [Option.some.injEq,Prod.mk.injEq] at ha
   obtain ⟨rfl,rfl⟩:=ha
   exact RG.opB hg (h.bd ho hc hf) (oploc_callM ho hc hf (fzL_ok hz) h) hr
  ·cases ha
 ·cases ha
theorem RG.opS {ts:Nat->AV} {σ:Sto} {v:AV} {up:List (Nat × SB)} {rd:List Nat} {d:Option Nat} (hg:gd ops ⟨ts,σ⟩ o=some true) (h:OpLoc P N o ⟨ts,σ⟩ ⟨v,up,rd⟩) (hd:o.dst=d) (hr:RG P N ops rest ⟨putS N ts d v,ups σ up⟩ fun s' Es=>K s' (⟨v,up,rd⟩::Es)) (hv:isVal o=false:=by rfl):RG P N ops (o::rest) ⟨ts,σ⟩ K:=RG.opx hg h hd hr hv
theorem RG.callS {ts:Nat->AV} {σ:Sto} {c:Call} {f:FuncId} {xs ys zs:List AV} {l:List Nat} {r:AV} (hg:gd ops ⟨ts,σ⟩ o=some true) (ho:o.op = .call c) (ha:argsA ⟨ts,σ⟩ c=some (f,xs)) (hz:fzL σ 6 xs=some (ys,l)) (hy:ys=zs) (h:PDoes P f zs r) (hflat:r.flat=true) {d:Option Nat} (hd:o.dst=d)
  (hr:RG P N ops rest ⟨putS N ts d r,σ⟩ fun s' Es=>K s' (⟨r,[],l⟩::Es)):RG P N ops (o::rest) ⟨ts,σ⟩ K:=RG.call hg ho ha hz hy h hflat hd hr
theorem RG.callMS {ts:Nat->AV} {σ:Sto} {c:Call} {f:FuncId} {xs ys zs:List AV} {l:List Nat} {r:AV} {up:List (Nat × SB)} (hg:gd ops ⟨ts,σ⟩ o=some true) (ho:o.op = .call c) (ha:argsA ⟨ts,σ⟩ c=some (f,xs)) (hz:fzL σ 6 xs=some (ys,l)) (hy:ys=zs) (hu:forceUN (killS σ l) some=some up) (h:PDoes P f zs r) {d:Option Nat} (hd:o.dst=d)
  (hr:RG P N ops rest ⟨putS N ts d r,ups σ up⟩ fun s' Es=>K s' (⟨r,up,[]⟩::Es)):RG P N ops (o::rest) ⟨ts,σ⟩ K:=by
 rw [forceUN_eq] at hu
 obtain rfl:=Option.some.inj hu
 exact RG.callM hg ho ha hz hy h hd hr
end
theorem AW.condT {P:Program} {N:Nat} {x:Operand} {y z:Code} {Q:Exit->St->Prop} {s:St} (hc:s.ev x = .b true) (h:AW P N y Q s):AW P N (.cond x y z) Q s:=AW.cond hc (fun _=>h) (fun e=>by cases e)
theorem AW.condF {P:Program} {N:Nat} {x:Operand} {y z:Code} {Q:Exit->St->Prop} {s:St} (hc:s.ev x = .b false) (h:AW P N z Q s):AW P N (.cond x y z) Q s:=AW.cond hc (fun e=>by cases e) (fun _=>h)
theorem PDoes.of_bodyN {P : Program} {f : FuncId} {fn : Func} {c : Code} {args : List AV} {r : AV} {N : Nat} (hf : P.funcs[f]? = some fn) (hb : fn.body = some c) (hn : (fn.name == "runtime.NumGoroutine") = false) (hN : fn.ntmps = N) (hlen : Nat.ble args.length N = true)
  (h:AW P N c (retQ P fn r) (st0 args)):PDoes P f args r:=by
 subst hN
 exact PDoes.of_body hf hb hn (Nat.le_of_ble_eq_true hlen) h
theorem nil_sl (W:World) (F:Nat->Prop):PRel W F (.sl []) (.slice none 0 0):=by
 refine .sl [] none 0 0 0 0 (fun _ _=>.nilIface) (by simp) (by decide) (by simp) ?_ ?_ ?_ ?_ <;> intros <;> simp_all
inductive Rn (σ σ':Sto):AV->AV->Prop where
 | any (x:AV):Rn σ σ' x .any
 | pu {x:AV} (h:x.pu1=true):Rn σ σ' x x
 | nil:Rn σ σ' (.raw (.slice none 0 0)) (.sl [])
 | own {id ep ep' off:Nat} {bd bd':Body} (h:σ id=⟨ep,some bd⟩) (h':σ' id=⟨ep',some bd'⟩):Rn σ σ' (.own id ep off) (.own id ep' off)
 | el {id ep ep' k j t m:Nat} {els:List (List AV)} (h:σ id=⟨ep,some (.row t m els)⟩) (h':σ' id=⟨ep',some (.row t m els)⟩):Rn σ σ' (.el id ep k j) (.el id ep' k j)
 | row {id ep ep' off n t m:Nat} {els:List (List AV)} (h:σ id=⟨ep,some (.row t m els)⟩) (h':σ' id=⟨ep',some (.row t m els)⟩):Rn σ σ' (.row id ep off n) (.row id ep' off n)
 | rowT {id ep ep' off n t m:Nat} {els els':List (List AV)} (h:σ id=⟨ep,some (.row t m els)⟩) (h':σ' id=⟨ep',some (.row t m els')⟩) (hn:off+n<=els'.length):Rn σ σ' (.row id ep off n) (.row id ep' off n)
 | rowN {id ep ep' off n t t':Nat} {els els':List AV} (h:σ id=⟨ep,some (.nest t els)⟩) (h':σ' id=⟨ep',some (.nest t' els')⟩) (hl:els'.length=els.length):Rn σ σ' (.row id ep off n) (.row id ep' off n)
 | ref {id ep ep':Nat} {k:RK} {bd bd':Body} (h:σ id=⟨ep,some bd⟩) (h':σ' id=⟨ep',some bd'⟩):Rn σ σ' (.ref id ep k) (.ref id ep' k)
 | agg {cs cs':List AV} (hl:cs'.length=cs.length) (h1:∀(j:Nat) (x:AV),cs'[j]?=some x->x.one=true) (h:∀(j:Nat) (x x':AV),cs[j]?=some x->cs'[j]?=some x'->Rn σ σ' x x'):Rn σ σ' (.agg cs) (.agg cs')
 | fn {f:FuncId} {a a' c c':List AV} (hl:a'.length=a.length) (hl':c'.length=c.length) (h:∀(j:Nat) (x x':AV),a[j]?=some x->a'[j]?=some x'->Rn σ σ' x x') (h':∀(j:Nat) (x x':AV),c[j]?=some x->c'[j]?=some x'->Rn σ σ' x x'):Rn σ σ' (.fn f a c) (.fn f a' c')
theorem Rn.is {σ σ':Sto} {x y:AV} (e:x=y) (h:y.pu1=true):Rn σ σ' x y:=by subst e;exact .pu h
theorem Rn.ownIs {σ σ':Sto} {x:AV} {id ep ep' off:Nat} {bd bd':Body} (e:x = .own id ep off) (h:σ id=⟨ep,some bd⟩) (h':σ' id=⟨ep',some bd'⟩):Rn σ σ' x (.own id ep' off):=e ▸ .own h h'
theorem Rn.rowIs {σ σ':Sto} {x:AV} {id ep ep' off n t m:Nat} {els:List (List AV)} (e:x = .row id ep off n) (h:σ id=⟨ep,some (.row t m els)⟩) (h':σ' id=⟨ep',some (.row t m els)⟩):Rn σ σ' x (.row id ep' off n):=e ▸ .row h h'
theorem Rn.rel {W:World} {F:Nat->Prop} {μ:Mu} {σ σ':Sto} {x x':AV} (h:Rn σ σ' x x'):∀{v:Value},Rel W F μ σ x v->Rel W F μ σ' x' v:=by
  induction h with
  | any x=>exact fun _=>.any _
  | pu h=>exact fun hx=>.pure (pu1_rel h hx)
  | nil =>
    intro v hx
    rw [hx.raw']
    exact .pure (nil_sl _ _)
  | @own id ep ep' off bd bd' h h' =>
    intro v hx
    cases hx with
    | pure hx=>cases hx
    | own _ _ _ _ he h1 hv =>
      obtain ⟨b,c,hm,rfl⟩:=hv _ h
      exact .own _ _ _ _ (by rw [h'];exact Nat.le_refl _) rfl fun _ _=>⟨b,c,hm,rfl⟩
  | @ref id ep ep' k bd bd' h h' =>
    intro v hx
    cases hx with
    | pure hx=>cases hx
    | ref _ _ _ _ he h1 hv =>
      obtain ⟨b,c,hm,rfl⟩:=hv _ h
      exact .ref _ _ _ _ (by rw [h'];exact Nat.le_refl _) h1 fun _ _=>⟨b,c,hm,rfl⟩
  | @el id ep ep' k j t m els h h' =>
    intro v hx
    cases hx with
    | pure hx=>cases hx
    | el _ _ _ _ _ he h1 hv =>
      obtain ⟨b,c,hm,rfl⟩:=hv _ _ _ h rfl
      refine .el _ _ _ _ _ (by rw [h'];exact Nat.le_refl _) rfl fun bd1 m1 l1 h2 hL=>⟨b,c,hm,?_⟩
      rw [h'] at h2
      simp only [SB.mk.injEq,Option.some.injEq,true_and] at h2
      subst h2
      simp only [Body.rowL,Option.some.injEq,Prod.mk.injEq] at hL
      rw [hL.1]
  | @row id ep ep' off n t m els h h' =>
    intro v hx
    cases hx with
    | pure hx=>cases hx
    | row _ _ _ _ _ he h1 hv =>
      have hv:=hv _ _ _ h rfl
      refine .row _ _ _ _ _ (by rw [h'];exact Nat.le_refl _) h1 fun bd1 m1 l1 h2 hL=>?_
      rw [h'] at h2
      simp only [SB.mk.injEq,Option.some.injEq,true_and] at h2
      subst h2
      simp only [Body.rowL,Option.some.injEq,Prod.mk.injEq] at hL
      rw [<- hL.1,<- hL.2]
      exact hv
  | @rowT id ep ep' off n t m els els' h h' hn =>
    intro v hx
    cases hx with
    | pure hx=>cases hx
    | row _ _ _ _ _ he h1 hv =>
      have hv:=hv _ _ _ h rfl
      refine .row _ _ _ _ _ (by rw [h'];exact Nat.le_refl _) h1 fun bd1 m1 l1 h2 hL=>?_
      rw [h'] at h2
      simp only [SB.mk.injEq,Option.some.injEq,true_and] at h2
      subst h2
      simp only [Body.rowL,Option.some.injEq,Prod.mk.injEq] at hL
      rw [<- hL.1,<- hL.2]
      exact ⟨hn,hv.2⟩
  | @rowN id ep ep' off n t t' els els' h h' hl =>
    intro v hx
    cases hx with
    | pure hx=>cases hx
    | row _ _ _ _ _ he h1 hv =>
      have hv:=hv _ _ _ h rfl
      refine .row _ _ _ _ _ (by rw [h'];exact Nat.le_refl _) h1 fun bd1 m1 l1 h2 hL=>?_
      rw [h'] at h2
      simp only [SB.mk.injEq,Option.some.injEq,true_and] at h2
      subst h2
      simp only [Body.rowL,Option.some.injEq,Prod.mk.injEq] at hL
      rw [<- hL.1,<- hL.2,hl]
      exact hv
  | @agg cs cs' hl h1 h ih =>
    intro v hx
    obtain ⟨vs,rfl,hlv,_,hr⟩:=hx.agg'
    refine .agg _ _ (by rw [hlv,hl]) h1 fun j x' v hj hv=>?_
    obtain ⟨x,hxj⟩:∃x,cs[j]?=some x:=⟨_,List.getElem?_eq_getElem (by rw [<- hl];exact (List.getElem?_eq_some_iff.1 hj).1)⟩
    exact ih j x x' hxj hj (hr j x v hxj hv)
  | @fn f a a' c c' hl hl' h h' ih ih' =>
    intro v hx
    obtain ⟨fs,cs,rfl,hf,hc,hr,hr'⟩:=hx.fn'
    refine .fn _ _ _ _ _ (by rw [hf,hl]) (by rw [hc,hl']) (fun j x' v hj hv=>?_) (fun j x' v hj hv=>?_)
    · obtain ⟨x,hxj⟩:∃x,a[j]?=some x:=⟨_,List.getElem?_eq_getElem (by rw [<- hl];exact (List.getElem?_eq_some_iff.1 hj).1)⟩
      exact ih j x x' hxj hj (hr j x v hxj hv)
    · obtain ⟨x,hxj⟩:∃x,c[j]?=some x:=⟨_,List.getElem?_eq_getElem (by rw [<- hl'];exact (List.getElem?_eq_some_iff.1 hj).1)⟩
      exact ih' j x x' hxj hj (hr' j x v hxj hv)
inductive RnB (σ σ':Sto):Body->Body->Prop where
 | box {t:TypeId} {cs cs':List AV} (hl:cs'.length=cs.length) (h1:∀(j:Nat) (x:AV),cs'[j]?=some x->x.one=true) (h:∀(j:Nat) (x x':AV),cs[j]?=some x->cs'[j]?=some x'->Rn σ σ' x x'):RnB σ σ' (.box t cs) (.box t cs')
 | row (t:TypeId) (m:Nat) (els:List (List AV)):RnB σ σ' (.row t m els) (.row t m els)
 | rowT (t:TypeId) (m n:Nat) (els:List (List AV)):RnB σ σ' (.row t m els) (.row t m (els.take n))
 | obj (o:Obj):RnB σ σ' (.obj o) (.obj o)
 | nest {t:TypeId} {els els':List AV} (hl:els'.length=els.length) (h1:∀(j:Nat) (x:AV),els'[j]?=some x->x.one=true) (h:∀(j:Nat) (x x':AV),els[j]?=some x->els'[j]?=some x'->Rn σ σ' x x'):RnB σ σ' (.nest t els) (.nest t els')
 | ghost {id ep ep':Nat} {bd bd':Body} {q:Option (Nat × Nat)} (h:σ id=⟨ep,some bd⟩) (h':σ' id=⟨ep',some bd'⟩):RnB σ σ' (.ghost id ep q) (.ghost id ep' q)
theorem BodyRel.take {W:World} {F:Nat->Prop} {μ:Mu} {σ σ':Sto} {p:Option (Nat × Nat)} {t m:Nat} {els:List (List AV)} (h:BodyRel W F μ σ p (.row t m els)) (n:Nat):BodyRel W F μ σ' p (.row t m (els.take n)):=by
 have g:∀(k:Nat) (cs:List AV),(els.take n)[k]?=some cs->els[k]?=some cs:=fun k cs hk=>by
  rw [List.getElem?_take] at hk
  split at hk
  ·exact hk
  ·cases hk
 rcases h with ⟨h1,h2⟩ | ⟨b,cap,cur,h1,h2,h3,h4,h5,h6,h7⟩
 ·exact .inl ⟨h1,by rw [h2,List.take_nil]⟩
 ·exact .inr ⟨b,cap,cur,h1,h2,by rw [List.length_take];omega,h4,h5,fun k cs hk=>h6 k cs (g k cs hk),fun k cs j x hk hj=>h7 k cs j x (g k cs hk) hj⟩
structure Wk (s s':St):Prop where
 ts:∀t,Rn s.σ s'.σ (s.ts t) (s'.ts t)
 σ:∀id bd',(s'.σ id).body=some bd'->∃bd,(s.σ id).body=some bd/\RnB s.σ s'.σ bd bd'
theorem Wk.own {s s':St} (h:Wk s s') {μ:Mu} {b:Nat} (ho:Own μ s'.σ b):Own μ s.σ b:=by
 obtain ⟨id,ep,bd,c,h1,h2⟩:=ho
 obtain ⟨bd0,h3,_⟩:=h.σ id bd (by rw [h1])
 refine ⟨id,(s.σ id).ep,bd0,c,?_,h2⟩
 rw [<- h3]
theorem Wk.stp {s s':St} (h:Wk s s') (W:World) (F:Nat->Prop) (μ:Mu):Stq W F μ s.σ W F μ s'.σ :=
 ⟨Kp.refl _ _,fun _ h=>h,fun _ h=>.inl h,fun _ hb=>.inl (h.own hb)⟩
theorem Wk.rs {s s':St} (h:Wk s s') {N:Nat} {W:World} {F:Nat->Prop} {μ:Mu} {a:Act} (hr:RS N W F μ s a):RS N W F μ s' a:=by
  refine ⟨fun t=>(h.ts t).rel (hr.ts t),hr.defers.go (h.stp W F μ),hr.n,⟨fun id ep bd hb=>?_,fun b hb=>hr.inv.apart b (h.own hb),fun id id' b c c' h1 h2=>?_,hr.inv.old,hr.inv.lay⟩⟩
  · obtain ⟨bd0,h3,hR⟩:=h.σ id bd (by rw [hb])
    have hB:=hr.inv.body id (s.σ id).ep bd0 (by rw [<- h3])
    cases hR with
    | row t m els=>exact hB
    | rowT t m n els=>exact hB.take n
    | obj o=>exact hB
    | @nest t els els' hl h1 hrn =>
      rcases hB with ⟨hn,rfl⟩ | ⟨b,cap,cur,hp,hh,q1,q2,q3,q4⟩
      · exact .inl ⟨hn,List.length_eq_zero_iff.1 hl⟩
      · refine .inr ⟨b,cap,cur,hp,hh,by omega,q2,q3,fun k x' hk=>⟨h1 k x' hk,?_⟩⟩
        obtain ⟨x,hx⟩:∃x,els[k]?=some x:=⟨_,List.getElem?_eq_getElem (by rw [<- hl];exact (List.getElem?_eq_some_iff.1 hk).1)⟩
        obtain ⟨_,v,hv,hr'⟩:=q4 k x hx
        exact ⟨v,hv,(hrn k x x' hx hk).rel hr'⟩
    | ghost h h'=>exact ⟨hB.1,by rw [h'];exact Nat.le_refl _,fun bd _=>hB.2.2 _ h⟩
    | @box t cs cs' hl h1 hrn =>
      obtain ⟨b,c,vs,hm,hw,hlv,hv⟩:=hB
      refine ⟨b,c,vs,hm,hw,by rw [hlv,hl],fun j x' v hj hvj=>⟨h1 j x' hj,?_⟩⟩
      obtain ⟨x,hxj⟩:∃x,cs[j]?=some x:=⟨_,List.getElem?_eq_getElem (by rw [<- hl];exact (List.getElem?_eq_some_iff.1 hj).1)⟩
      exact (hrn j x x' hxj hj).rel (hv j x v hxj hvj).2
  · have g : ∀ id, (s'.σ id).body.isSome = true -> (s.σ id).body.isSome = true := fun id hb => by
      obtain ⟨bd',e⟩:=Option.isSome_iff_exists.1 hb
      obtain ⟨bd,e',_⟩:=h.σ id bd' e
      rw [e'];rfl
    exact hr.inv.inj id id' b c c' (g id h1) (g id' h2)
theorem AW.weak {P:Program} {N:Nat} {c:Code} {Q:Exit->St->Prop} {s s':St} (h:Wk s s') (h':AW P N c Q s'):AW P N c Q s:=by
 intro W F μ a hr
 refine Code.wpA_mono ?_ (h' W F μ a (h.rs hr))
 rintro e a' W' ⟨F',μ',s'',hq,hr',hs⟩
 exact ⟨F',μ',s'',hq,hr',((h.stp W F μ).d rfl).trans hs⟩
open Classical in
theorem AW.loopS {P:Program} {N:Nat} {Q:Exit->St->Prop} {s:St} {c:Code} {ι:Type} (st:ι->St) (J:ι->Prop) (m:ι->Nat) (i0:ι) (h0:J i0) (hw:Wk s (st i0))
  (round:∀i,J i->AW P N c (thenA (fun s'=>∃i',(J i'/\m i'<m i)/\Wk s' (st i')) Q) (st i)):AW P N (.loop c) Q s:=by
 intro W F μ a hr ro hn
 let R:Nat->Act->World->Prop:=fun n a' W'=>∃F' μ' i,m i=n/\J i/\RS N W' F' μ' (st i) a'/\Std W F μ s.σ a W' F' μ' (st i).σ a'
 refine wpIn_loop (fun a' W'=>∃n,R n a' W') (fun a' W'=>if h:∃n,R n a' W' then (least _ h).choose else 0) ⟨_,F,μ,i0,rfl,h0,hw.rs hr,(hw.stp W F μ).d rfl⟩ ?_
 intro a1 W1 h
 simp only [dif_pos h]
 obtain ⟨F1,μ1,i,hm,hI,hr1,hs1⟩:=(least _ h).choose_spec.1
 rw [<- hm]
 refine wpIn_mono (round i hI W1 F1 μ1 a1 hr1 ro hn) ?_
 rintro e a' W' ⟨F',μ',s',hq,hr',hs⟩
 cases e with
 | normal =>
  obtain ⟨i',⟨hI',hlt⟩,hw'⟩:=hq
  have hR:R (m i') a' W':=⟨F',μ',i',rfl,hI',hw'.rs hr',(hs1.trans hs).trans ((hw'.stp W' F' μ').d rfl)⟩
  refine ⟨⟨_,hR⟩,?_⟩
  simp only [dif_pos (show ∃n,R n a' W' from ⟨_,hR⟩)]
  exact Nat.lt_of_le_of_lt ((least (fun n=>R n a' W') ⟨_,hR⟩).choose_spec.2 _ hR) hlt
 | _=>exact ⟨F',μ',s',hq,hr',hs1.trans hs⟩
def lkT:List (Nat × AV)->Nat->AV
 | [],_=>.any
 | p::l,t=>cond (Nat.beq t p.1) p.2 (lkT l t)
def lkB:List (Nat × SB)->Nat->SB
 | [],_=>⟨0,none⟩
 | p::l,id=>cond (Nat.beq id p.1) p.2 (lkB l id)
abbrev stL (l:List (Nat × AV)) (b:List (Nat × SB)):St:=⟨lkT l,lkB b⟩
def WkT (s:St) (σ':Sto):List (Nat × AV)->Prop
 | []=>True
 | p::l=>Rn s.σ σ' (s.ts p.1) p.2/\WkT s σ' l
inductive WkB1 (s:St) (σ':Sto) (id:Nat):SB->Prop where
 | box {t:TypeId} {cs cs':List AV} {ep ep':Nat} (h:s.σ id=⟨ep,some (.box t cs)⟩) (hl:cs'.length=cs.length) (h1:cs'.all AV.one=true) (hc:∀(j:Nat) (x x':AV),cs[j]?=some x->cs'[j]?=some x'->Rn s.σ σ' x x'):WkB1 s σ' id ⟨ep',some (.box t cs')⟩
 | row {t:TypeId} {m ep ep':Nat} {els els':List (List AV)} (h:s.σ id=⟨ep,some (.row t m els)⟩) (he:els=els'):WkB1 s σ' id ⟨ep',some (.row t m els')⟩
 | rowT {t:TypeId} {m ep ep' n:Nat} {els els':List (List AV)} (h:s.σ id=⟨ep,some (.row t m els)⟩) (he:els.take n=els'):WkB1 s σ' id ⟨ep',some (.row t m els')⟩
 | obj {ep ep':Nat} {o o':Obj} (h:s.σ id=⟨ep,some (.obj o)⟩) (he:o=o'):WkB1 s σ' id ⟨ep',some (.obj o')⟩
 | nest {t:TypeId} {ep ep':Nat} {els els':List AV} (h:s.σ id=⟨ep,some (.nest t els)⟩) (hl:els'.length=els.length) (h1:∀(j:Nat) (x:AV),els'[j]?=some x->x.one=true) (hc:∀(j:Nat) (x x':AV),els[j]?=some x->els'[j]?=some x'->Rn s.σ σ' x x'):WkB1 s σ' id ⟨ep',some (.nest t els')⟩
 | none (ep:Nat):WkB1 s σ' id ⟨ep,none⟩
 | ghost {ep ep' i e e':Nat} {bd bd':Body} {q:Option (Nat × Nat)} (h:s.σ id=⟨ep,some (.ghost i e q)⟩) (hx:s.σ i=⟨e,some bd⟩) (hx':σ' i=⟨e',some bd'⟩):WkB1 s σ' id ⟨ep',some (.ghost i e' q)⟩
def WkB (s:St) (σ':Sto):List (Nat × SB)->Prop
 | []=>True
 | p::l=>WkB1 s σ' p.1 p.2/\WkB s σ' l
theorem wkT_ok {s:St} {σ':Sto}:∀{l:List (Nat × AV)},WkT s σ' l->∀t,Rn s.σ σ' (s.ts t) (lkT l t)
 | [],_,_=>.any _
 | p::l,h,t=>by
  show Rn s.σ σ' (s.ts t) (cond (Nat.beq t p.1) p.2 (lkT l t))
  cases hb:Nat.beq t p.1
  ·exact wkT_ok h.2 t
  ·rw [Nat.eq_of_beq_eq_true hb]
   exact h.1
theorem wkB_ok {s:St} {σ':Sto}:∀{l:List (Nat × SB)},WkB s σ' l->∀id bd',(lkB l id).body=some bd'->∃bd,(s.σ id).body=some bd/\RnB s.σ σ' bd bd'
 | [],_,id,bd',h=>by cases h
 | p::l,h,id,bd',hb=>by
  replace hb:(cond (Nat.beq id p.1) p.2 (lkB l id)).body=some bd':=hb
  cases hq:Nat.beq id p.1
  ·rw [hq] at hb
   exact wkB_ok h.2 id bd' hb
  ·rw [hq] at hb
   replace hb:p.2.body=some bd':=hb
   rw [Nat.eq_of_beq_eq_true hq]
   have h1:=h.1
   obtain ⟨pid,psb⟩:=p
   cases h1 with
   | box h hl h1 hc =>
    obtain rfl:=Option.some.inj hb
    exact ⟨_,by rw [h],.box hl (fun j x hj=>List.all_eq_true.1 h1 x (List.mem_of_getElem? hj)) hc⟩
   | row h he =>
    obtain rfl:=Option.some.inj hb
    subst he
    exact ⟨_,by rw [h],.row _ _ _⟩
   | rowT h he =>
    obtain rfl:=Option.some.inj hb
    subst he
    exact ⟨_,by rw [h],.rowT _ _ _ _⟩
   | obj h he =>
    obtain rfl:=Option.some.inj hb
    subst he
    exact ⟨_,by rw [h],.obj _⟩
   | nest h hl h1 hc =>
    obtain rfl:=Option.some.inj hb
    exact ⟨_,by rw [h],.nest hl h1 hc⟩
   | none=>cases hb
   | ghost h hx hx' =>
    obtain rfl:=Option.some.inj hb
    exact ⟨_,by rw [h],.ghost hx hx'⟩
theorem WkB1.same {s:St} {σ':Sto} {id ep ep':Nat} {t:TypeId} {cs:List AV} (h:s.σ id=⟨ep,some (.box t cs)⟩) (h1:cs.all AV.one=true) (hp:cs.all AV.pu1=true):WkB1 s σ' id ⟨ep',some (.box t cs)⟩ :=
 .box h rfl h1 fun j x x' hj hj'=>by
  obtain rfl:=Option.some.inj (hj.symm.trans hj')
  exact .pu (List.all_eq_true.1 hp x (List.mem_of_getElem? hj))
theorem Wk.to {s:St} {l:List (Nat × AV)} {b:List (Nat × SB)} (ht:WkT s (lkB b) l) (hB:WkB s (lkB b) b):Wk s (stL l b):=⟨wkT_ok ht,wkB_ok hB⟩
theorem AW.loopL {P:Program} {N:Nat} {Q:Exit->St->Prop} {s:St} {c:Code} {ι:Type} (T:ι->List (Nat × AV)) (B:ι->List (Nat × SB)) (J:ι->Prop) (m:ι->Nat) (i0:ι) (h0:J i0) (ht:WkT s (lkB (B i0)) (T i0)) (hB:WkB s (lkB (B i0)) (B i0))
  (round:∀i,J i->AW P N c (thenA (fun s'=>∃i',(J i'/\m i'<m i)/\WkT s' (lkB (B i')) (T i')/\WkB s' (lkB (B i')) (B i')) Q) (stL (T i) (B i))):AW P N (.loop c) Q s:=by
 refine AW.loopS (fun i=>stL (T i) (B i)) J m i0 h0 (Wk.to ht hB) fun i hJ=>(round i hJ).mono fun ex s' hq=>?_
 cases ex with
 | normal =>
  obtain ⟨i',hi,h1,h2⟩:=hq
  exact ⟨i',hi,Wk.to h1 h2⟩
 | _=>exact hq
theorem AW.only {P:Program} {N:Nat} {Q:Exit->St->Prop} {s:St} {c:Code} (l:List (Nat × AV)) (b:List (Nat × SB)) (ht:WkT s (lkB b) l) (hB:WkB s (lkB b) b) (h:AW P N c Q (stL l b)):AW P N c Q s:=AW.weak (Wk.to ht hB) h
theorem AW.cut {P:Program} {N:Nat} {Q:Exit->St->Prop} {s:St} {x y:Code} {ι:Type} (T:ι->List (Nat × AV)) (B:ι->List (Nat × SB)) (J:ι->Prop) (h1:AW P N x (thenA (fun s'=>∃i,J i/\WkT s' (lkB (B i)) (T i)/\WkB s' (lkB (B i)) (B i)) Q) s)
  (h2:∀i,J i->AW P N y Q (stL (T i) (B i))):AW P N (.seq x y) Q s :=
 AW.seq (h1.mono fun e s' hq=>by
  cases e with
  | normal =>
   obtain ⟨i,hJ,ht,hB⟩:=hq
   exact AW.only _ _ ht hB (h2 i hJ)
  | _=>exact hq)
theorem AW.toExit {P:Program} {N:Nat} {Q:Exit->St->Prop} {s:St} {x y:Code} {id:Nat} {ι:Type} (T:ι->List (Nat × AV)) (B:ι->List (Nat × SB)) (J:ι->Prop) (h1:AW P N x (fun e s'=>e = .exit id/\∃i,J i/\WkT s' (lkB (B i)) (T i)/\WkB s' (lkB (B i)) (B i)) s)
  (h2:∀i,J i->AW P N y Q (stL (T i) (B i))):AW P N x (inBlkA id (thenA (AW P N y Q) Q)) s :=
 h1.mono fun e s' hq=>by
  obtain ⟨rfl,i,hJ,ht,hB⟩:=hq
  show if id=id then _ else _
  rw [if_pos rfl]
  exact AW.only _ _ ht hB (h2 i hJ)
theorem AW.lens {P:Program} {N:Nat} {Q:Exit->St->Prop} {s:St} {c:Code} (t:Nat) {els:List (List AV)} (ht:s.ts t = .sl els) (h:els.length<=9223372036854775807->AW P N c Q s):AW P N c Q s:=by
 intro W F μ a hr
 have h1:=hr.ts t
 rw [ht] at h1
 generalize a.tmps.getD t undef=v at h1
 cases h1.sl' with
 | sl _ A c m b off cell hc hm =>
  have:maxLen=9223372036854775807:=by decide
  exact h (by omega) W F μ a hr
end Go.Proofs.YthgbdoofchknhaaGreatDoor.Sm
end
end
section
namespace Go.Proofs.YthgbdoofchknhaaGreatDoor
open Go.RowKit Go.WideShapes Go.ChangeShapes Go.Deep
def Readable {α:Type} (P:Program) (t:TypeId) (R:Rep α):Prop :=
 ∀(H:Type) (enc:TypeId × Value->H) (w:World) (base:Nat) (spare:Nat->Bool) (held:Bool) (fuel:Nat) (cs:List Value) (x:DataW H × List MemPlace),
  DataW.trod enc P w base spare held fuel t cs=some x->∃a:α,R.rel w (fun b=>b<w.heap.size) a cs
theorem all2_collect {α:Type} {r:α->List Value->Prop} {n:Nat} (hn:∀x c,r x c->c.length=n) (w:World) (b off:Nat):∀(len:Nat),
  (∀i,i<len->∃x c,r x c/\∀j u,c[j]?=some u->w.cell? ⟨b,off+(i*n+j),none⟩=some u) ->
  ∃xs cells,xs.length=len/\All2 r xs cells/\∀j u,cells[j]?=some u->w.cell? ⟨b,off+j,none⟩=some u
 | 0,_=>⟨[],[],rfl,rfl,by simp⟩
 | len+1,h=>by
  obtain ⟨xs,cells,h1,h2,h3⟩:=all2_collect hn w b off len fun i hi=>h i (by omega)
  obtain ⟨x,c,hr,hc⟩:=h len (by omega)
  refine ⟨xs++[x],cells++c,by simp [h1],h2.snoc hr,fun j u hu=>?_⟩
  have hl:=h2.length hn
  rw [h1] at hl
  rw [List.getElem?_append] at hu
  split at hu
  ·exact h3 j u hu
  ·have:=hc _ u hu
   rwa [hl,show off+(len*n+(j - len*n))=off+j by omega] at this
theorem Readable.slice {α:Type} {P:Program} {t e:TypeId} {R:Rep α} (hR:Readable P e R) (ht:P.underlying t=some (.slice e)) (hn:P.cellsOf e=R.n) (h0:0<R.n):Readable P t R.slice:=by
  intro H enc w base spare held fuel cs x hx
  rcases open_slice ht hx with ⟨rfl,_⟩ | ⟨a,len,cap,m,n,D,Pl,rfl,_,hlc,hcm,hm,_,hel⟩
  · exact ⟨[],_,rfl,SliceAt.nil _ _ _⟩
  · have hlm:len<=m:=by rw [hm];split <;> omega
    by_cases hp:0<len
    · have hspot : a = ⟨a.block, a.off, none⟩ /\ a.block < w.heap.size := by
        obtain ⟨cs',hc,_⟩:=hel 0 (by omega)
        obtain ⟨_,hl,hat⟩:=World.cells?_some hc
        have h1:=hat 0 (by rw [hn];exact h0)
        have e:(a.add (0*P.cellsOf e)).add 0=a:=by simp [Addr.add]
        rw [e,List.getElem?_eq_getElem (by rw [hl,hn];exact h0)] at h1
        refine ⟨?_,World.block_lt_of_cell? w a h1⟩
        unfold World.cell? at h1
        split at h1
        · split at h1
          · cases h1
          · rename_i hs
            obtain ⟨ab,ao,asp⟩:=a
            cases asp with
            | none=>rfl
            | some k=>simp at hs
        · cases h1
      obtain ⟨xs,cells,h1,h2,h3⟩:=all2_collect (r:=R.rel w (fun b=>b<w.heap.size)) (n:=R.n) (fun _ _=>R.len) w a.block a.off len fun i hi=>by
        obtain ⟨cs',hc,ht'⟩:=hel i (by omega)
        obtain ⟨y,hy⟩:=hR H enc w base spare held n cs' _ ht'
        obtain ⟨_,hl,hat⟩:=World.cells?_some hc
        refine ⟨y,cs',hy,fun j u hu=>?_⟩
        have hj:j<P.cellsOf e:=by have:=(List.getElem?_eq_some_iff.1 hu).1;omega
        have:=hat j hj
        rw [hu,hn,hspot.1] at this
        rw [show ((⟨a.block,a.off,none⟩:Addr).add (i*R.n)).add j=⟨a.block,a.off+(i*R.n+j),none⟩ by
          unfold Addr.add
          by_cases h1:i*R.n=0 <;> by_cases h2:j=0 <;> simp [h1,h2,Nat.add_assoc]] at this
        exact this
      exact ⟨xs,_,rfl,some a,cap,by rw [h1],by omega,hcm,fun _=>⟨a.block,a.off,by rw [<- hspot.1],hspot.2,hspot.2,cells,h2,h3⟩⟩
    · obtain rfl:len=0:=by omega
      exact ⟨[],_,rfl,some a,cap,rfl,Nat.zero_le _,hcm,fun h=>absurd h (Nat.lt_irrefl _)⟩
theorem struct_part {P:Program} {t:TypeId} {fs:Array Field} (ht:P.underlying t=some (.struct fs)) {H:Type} {enc:TypeId × Value->H} {w:World} {base:Nat} {spare:Nat->Bool} {held:Bool} {fuel:Nat} {cs:List Value} {x:DataW H × List MemPlace}
  (hx:DataW.trod enc P w base spare held fuel t cs=some x):∃m,cs.length=P.cellsOf t/\∀(j ty off n:Nat),(fs[j]?).map (fun f=>(f.type,f.offset))=some (ty,off)->P.cellsOf ty=n ->
   ∃y,DataW.trod enc P w base spare held m ty ((cs.drop off).take n)=some y:=by
 obtain ⟨xs,n,_,_,hl,hxs,hf⟩:=DataW.trod_struct ht hx
 refine ⟨n,hl,fun j ty off k hj hk=>?_⟩
 cases hfj:fs[j]? with
 | none=>rw [hfj] at hj;cases hj
 | some f =>
  rw [hfj] at hj
  simp only [Option.map_some,Option.some.injEq,Prod.mk.injEq] at hj
  have h:=hf j f hfj
  rw [hj.1,hj.2,hk] at h
  have hlt:j<xs.length:=by rw [hxs];exact (Array.getElem?_eq_some_iff.1 hfj).1
  exact ⟨xs[j],by rw [h,List.getElem?_eq_getElem hlt]⟩
theorem wf_i64 {n:Int} (h:(Lit.int .i64 n).wf=true):IsInt n:=by
 have:-9223372036854775808<=n/\n<=9223372036854775807:=by simpa [Lit.wf,IntKind.min,IntKind.max,IntKind.signed,IntKind.bits] using h
 exact this
theorem wf_u64 {n:Int} (h:(Lit.int .u64 n).wf=true):∃x:UInt64,n=x.toNat:=by
 have h:0<=n/\n<=18446744073709551615:=by simpa [Lit.wf,IntKind.min,IntKind.max,IntKind.signed,IntKind.bits] using h
 exact ⟨UInt64.ofNat n.toNat,by rw [<- u64_small (by omega)];omega⟩
theorem wf_u8 {n:Int} (h:(Lit.int .u8 n).wf=true):∃x:UInt8,n=x.toNat:=by
 have h:0<=n/\n<=255:=by simpa [Lit.wf,IntKind.min,IntKind.max,IntKind.signed,IntKind.bits] using h
 exact ⟨UInt8.ofNat n.toNat,by rw [UInt8.toNat_ofNat'];omega⟩
section
variable {H : Type} {enc : TypeId × Value -> H} {P : Program}
theorem post_of_below {f:Func} {s:ChangeSpec} {apart fresh handsOn again:Bool} {W W':World} {args:Array Value} {v:Value} {ds gs:List (DataW H)} {before pa pv:List MemPlace}
  (hW:DataW.Whole enc P f.params.toList s.vars apart W args.toList ds gs before)
  (hres:∀(b:Nat) (sp:Nat->Bool) (hd:Bool),DataW.TrodAll enc P W' b sp hd f.resultTypes.toList (v.resultList f.resultTypes.size) (s.fn H (ds++gs)).results [])
  (hargs:∀sp:Nat->Bool,(∀p∈before,sp p.block=true)->DataW.TrodAll enc P W' 0 sp true f.params.toList args.toList (s.fn H (ds++gs)).args pa)
  (hvars:∀sp:Nat->Bool,(∀p∈before,sp p.block=true)->DataW.TrodVars enc P W' sp s.vars (s.fn H (ds++gs)).vars pv)
  (hps:before=pa++pv) (hb:Below W.heap.size W W')
  (hok:∀(j:Nat) (t:TypeId) (r:Value),f.resultTypes[j]?=some t->(v.resultList f.resultTypes.size)[j]?=some r->Value.okWide P W' .any 0 t r) :
  s.post enc P f apart fresh handsOn again W args v W':=by
 have hlt:∀p∈before,p.block<W.heap.size:=fun p hp=>hW.lt p hp
 have hold:∀p∈before,(fun b=>decide (b<W.heap.size)) p.block=true:=fun p hp=>by simpa using hlt p hp
 refine ⟨ds,gs,before,[],pa,pv,hW,hres _ _ _,hargs _ hold,hvars _ hold,World.keptBut_mono (fun p hp=>⟨hp,?_⟩) (hb.frame (·∈before)),fun _=>?_⟩
 ·rw [hps,List.mem_append] at hp
  exact Or.inr hp
 ·obtain ⟨_,_,_,_,_,hz,hn⟩:=hW
  refine ⟨hok,_,_,([]++pa)++pv,⟨[]++pa,pv,trodAll_append (hargs _ (fun _ _=>rfl)) (hres _ _ _),hvars _ (fun _ _=>rfl),rfl,?_,?_⟩,?_⟩
  ·intro b off hp
   have hin:MemPlace.cell b off∈before:=by rw [hps];simpa using hp
   rw [hb.frozen (hlt _ hin)]
   exact hz b off hin
  ·intro ha
   have:=hn ha
   rw [hps] at this
   simpa using this
  ·intro p hp _
   rw [hps]
   simpa using hp
theorem all_stays (hl:laidOutB P=true) {W W':World} (hb:Below W.heap.size W W') {sp':Nat->Bool}:∀{ts:List TypeId} {vs:List Value} {ds:List (DataW H)} {ps:List MemPlace},
  (∀t∈ts,P.readableRec t=true/\t<P.types.size)->DataW.TrodAll enc P W 0 (fun _=>true) true ts vs ds ps->(∀p∈ps,p.block<W.heap.size)->(∀p∈ps,sp' p.block=true)->DataW.TrodAll enc P W' 0 sp' true ts vs ds ps
 | [],[],[],_,_,h,_,_=>h
 | t::ts,v::vs,d::ds,ps,hr,h,hlt,hs=>by
  obtain ⟨p,q,h1,h2,rfl⟩:=h
  refine ⟨p,q,WideElems.Trod_stays hl (hr t (by simp)).1 (hr t (by simp)).2 h1 (fun x hx=>hb.same (hlt x (by simp [hx]))) (fun x hx=>hs x (by simp [hx])),?_,rfl⟩
  exact all_stays hl hb (fun t ht=>hr t (by simp [ht])) h2 (fun x hx=>hlt x (by simp [hx])) (fun x hx=>hs x (by simp [hx]))
end
theorem law_post {H:Type} {enc:TypeId × Value->H} {P:Program} {F:Nat} {fn:Func} {s:ChangeSpec} (hl:laidOutB P=true) (hv:s.vars=[]) (hrt:∃b,fn.resultTypes = #[b]/\P.underlying b=some .bool)
  (hr:∀t∈fn.params.toList,P.readableRec t=true/\t<P.types.size) {W:World} {args:Array Value} {ds gs:List (DataW H)} {before:List MemPlace}
  (hs:(s.fn H ds).results=[.lit (.bool true)]/\(s.fn H ds).args=ds/\(s.fn H ds).vars=[])
  (hW:DataW.Whole enc P fn.params.toList s.vars false W args.toList ds gs before)
  (hcalls:Calls P F args W fun e W'=>e = .returned (.bool true)/\Kp No W W') :
  Calls P F args W fun e W'=>∃v,e = .returned v/\s.post enc P fn false true false false W args v W':=by
 refine hcalls.mono fun e W' ⟨he,hk⟩=>⟨.bool true,he,?_⟩
 have hb:Below W.heap.size W W':=hk.below (Nat.le_refl _) fun k _ h=>h
 have hlt:∀p∈before,p.block<W.heap.size:=fun p hp=>hW.lt p hp
 have hW0:=hW
 obtain ⟨p,q,hA,hV,hpq,hz,hn⟩:=hW0
 rw [hv] at hV
 obtain ⟨rfl,rfl⟩:=trodVars_none hV
 obtain ⟨b,hb1,hb2⟩:=hrt
 rw [List.append_nil] at hpq
 subst hpq
 refine post_of_below (pa:=before) (pv:=[]) hW (fun _ _ _=>?_) (fun sp hsp=>?_) (fun _ _=>?_) (by simp) hb ?_
 ·rw [List.append_nil,hs.1,hb1]
  exact trodAll_mk1 (shut_bool hb2 _)
 ·rw [List.append_nil,hs.2.1]
  exact all_stays hl hb hr hA hlt hsp
 ·rw [List.append_nil,hs.2.2,hv]
  rfl
 ·rw [hb1]
  intro j t r hj hr
  cases j with
  | zero =>
   have e1:b=t:=by simpa using hj
   have e2:Value.bool true=r:=by simpa [Value.resultList] using hr
   rw [<- e1,<- e2]
   exact okWide_bool_mk hb2 _
  | succ j=>simp at hj
end Go.Proofs.YthgbdoofchknhaaGreatDoor
end
section
namespace Go.Proofs.YthgbdoofchknhaaGreatDoor
open Go.RowKit Go.WideShapes Go.ChangeShapes Go.Deep
end Go.Proofs.YthgbdoofchknhaaGreatDoor
end
section
section
namespace Go.Proofs.YthgbdoofchknhaaGreatDoor.Sm
open Go.RowKit
structure Enc {α:Type} (R:Rep α) (enc:α->List AV):Prop where
 len:∀x,(enc x).length=R.n
 one:∀x,∀y∈enc x,y.one=true
 «to» :∀{W:World} {F:Nat->Prop} {x:α} {cs:List Value},R.rel W F x cs->∀(j:Nat) (y:AV) (u:Value),(enc x)[j]?=some y->cs[j]?=some u->PRel W F y u
 of:∀{W:World} {F:Nat->Prop} {x:α} {cs:List Value},cs.length=R.n->(∀(j:Nat) (y:AV) (u:Value),(enc x)[j]?=some y->cs[j]?=some u->PRel W F y u)->R.rel W F x cs
theorem val_eq' {W:World} {F:Nat->Prop} {x:AV} {v u:Value} (h:x.val?=some u) (hr:PRel W F x v):v=u:=val_eq (μ:=fun _=>none) (σ:=fun _=>⟨0,none⟩) h (.pure hr)
theorem Enc.plain {α:Type} {n:Nat} {e0:α->List Value} {hn:∀x,(e0 x).length=n} {h1:∀x,∀u∈e0 x,u.oneCell'=true} {enc:α->List AV} (h:∀x,(enc x).map AV.val?=(e0 x).map some):Enc (Rep.plain n e0 hn h1) enc:=by
  have get:∀(x:α) (j:Nat) (y:AV),(enc x)[j]?=some y->∃v,(e0 x)[j]?=some v/\y.val?=some v:=fun x j y hj=>by
    have e:=congrArg (fun l=>l[j]?) (h x)
    simp only [List.getElem?_map,hj,Option.map_some] at e
    cases hv:(e0 x)[j]? with
    | none=>rw [hv] at e;cases e
    | some v =>
      rw [hv] at e
      exact ⟨v,rfl,by simpa using e⟩
  have hlen:∀x,(enc x).length=n:=fun x=>by
    have e:=congrArg List.length (h x)
    simp only [List.length_map] at e
    rw [e]
    exact hn x
  refine ⟨hlen,fun x y hy=>?_,fun {W F x cs} hr j y u hj hu=>?_,fun {W F x cs} hl hp=>?_⟩
  · obtain ⟨j,hj⟩:=List.getElem?_of_mem hy
    obtain ⟨v,hv,he⟩:=get x j y hj
    have h0:=h1 x v (List.mem_of_getElem? hv)
    cases y <;> first | rfl | (simp [AV.val?] at he;done) | skip
    rename_i w
    obtain rfl:w=v:=by simpa [AV.val?] using he
    exact h0
  · obtain rfl:cs=e0 x:=hr
    obtain ⟨v,hv,he⟩:=get x j y hj
    obtain rfl:u=v:=Option.some.inj (hu.symm.trans hv)
    exact val_rel he
  · show cs=e0 x
    have hl:cs.length=n:=hl
    apply List.ext_getElem?
    intro j
    by_cases hj:j<n
    · obtain ⟨y,hy⟩:∃y,(enc x)[j]?=some y:=⟨_,List.getElem?_eq_getElem (by rw [hlen];exact hj)⟩
      obtain ⟨u,hu⟩:∃u,cs[j]?=some u:=⟨_,List.getElem?_eq_getElem (by omega)⟩
      obtain ⟨v,hv,he⟩:=get x j y hy
      rw [hu,hv,val_eq' he (hp j y u hy hu)]
    · rw [List.getElem?_eq_none (by omega),List.getElem?_eq_none (by rw [hn];omega)]
theorem all2_build {α:Type} {r:α->List Value->Prop} {g:Nat->List Value}:∀(xs:List α) (k0:Nat),(∀(k:Nat) (x:α),xs[k]?=some x->r x (g (k0+k)))->All2 r xs ((List.range' k0 xs.length).flatMap g)
 | [],k0,_=>rfl
 | x::xs,k0,h=>by
  refine ⟨g k0,(List.range' (k0+1) xs.length).flatMap g,by simp [List.range'_succ],h 0 x rfl,all2_build xs (k0+1) fun k y hk=>?_⟩
  have:=h (k+1) y (by simpa using hk)
  rwa [show k0+(k+1)=k0+1+k by omega] at this
theorem flatMap_get {g:Nat->List Value} {n:Nat} (hg:∀k,(g k).length=n):∀(m k0 j:Nat) (u:Value),((List.range' k0 m).flatMap g)[j]?=some u->∃k i,k<m/\i<n/\j=k*n+i/\(g (k0+k))[i]?=some u
 | 0,k0,j,u,h=>by simp at h
 | m+1,k0,j,u,h=>by
  rw [List.range'_succ,List.flatMap_cons,List.getElem?_append,hg] at h
  split at h
  ·rename_i hlt
   exact ⟨0,j,by omega,hlt,by simp,by simpa using h⟩
  ·rename_i hge
   obtain ⟨k,i,h1,h2,h3,h4⟩:=flatMap_get hg m (k0+1) (j - n) u h
   refine ⟨k+1,i,by omega,h2,by rw [Nat.add_mul];omega,?_⟩
   rwa [show k0+(k+1)=k0+1+k by omega]
section
variable {α : Type} {R : Rep α} {enc : α -> List AV} {W : World} {F : Nat -> Prop} {xs : List α} {v : Value}
theorem Enc.sl (E:Enc R enc) (h:SliceAt R W F xs v):PRel W F (.sl (xs.map enc)) v:=by
  obtain ⟨A,c,rfl,hc,hm,h3⟩:=h
  have hlen:(xs.map enc).length=xs.length:=by simp
  have get:∀(k:Nat) (cs:List AV),(xs.map enc)[k]?=some cs->∃x,xs[k]?=some x/\enc x=cs:=fun k cs hk=>by
    rw [List.getElem?_map] at hk
    cases hx:xs[k]? with
    | none=>rw [hx] at hk;cases hk
    | some x=>rw [hx] at hk;exact ⟨x,rfl,by simpa using hk⟩
  by_cases hp:0<xs.length
  · obtain ⟨b,off,rfl,hF,hb,cells,ha,hcell⟩:=h3 hp
    have key := PRel.sl (W := W) (F := F) (xs.map enc) (some ⟨b, off, none⟩) c R.n b off (fun k j => cells.getD (k * R.n + j) undef) (by simpa using hc) hm (fun _ => ⟨rfl, hF, hb⟩) (fun k cs hk => by
        obtain ⟨x,_,rfl⟩:=get k cs hk
        exact E.len x) (fun k cs j y hk hj=>by
        obtain ⟨x,_,rfl⟩:=get k cs hk
        exact E.one x y (List.mem_of_getElem? hj)) (fun k cs j y hk hj=>?_) (fun k cs j y hk hj=>?_)
    · rw [hlen] at key
      exact key
    · obtain ⟨x,hx,rfl⟩:=get k cs hk
      obtain ⟨cs,hr,hg⟩:=ha.get (fun _ _=>R.len) hx
      obtain ⟨u,hu⟩:∃u,cs[j]?=some u:=⟨_,List.getElem?_eq_getElem (by rw [R.len hr,<- E.len x];exact (List.getElem?_eq_some_iff.1 hj).1)⟩
      have:cells.getD (k*R.n+j) undef=u:=by rw [List.getD_eq_getElem?_getD,hg j u hu];rfl
      rw [this]
      exact E.to hr j y u hj hu
    · obtain ⟨x,hx,rfl⟩:=get k cs hk
      obtain ⟨cs,hr,hg⟩:=ha.get (fun _ _=>R.len) hx
      obtain ⟨u,hu⟩:∃u,cs[j]?=some u:=⟨_,List.getElem?_eq_getElem (by rw [R.len hr,<- E.len x];exact (List.getElem?_eq_some_iff.1 hj).1)⟩
      have:cells.getD (k*R.n+j) undef=u:=by rw [List.getD_eq_getElem?_getD,hg j u hu];rfl
      rw [this]
      exact hcell _ u (hg j u hu)
  · obtain rfl:xs=[]:=List.eq_nil_of_length_eq_zero (by omega)
    exact .sl [] A c 0 0 0 (fun _ _=>undef) (Nat.zero_le _) hm (fun h=>absurd h (Nat.lt_irrefl _)) (by simp) (by simp) (by simp) (by simp)
theorem Enc.slice_of (E:Enc R enc) (h0:0<R.n) (h:PRel W F (.sl (xs.map enc)) v):SliceAt R W F xs v:=by
 cases h with
 | sl _ A c m b off cell hc hm hA hl hone hr hw =>
  have hlen:(xs.map enc).length=xs.length:=by simp
  rw [hlen] at hc hA ⊢
  refine ⟨A,c,rfl,hc,hm,fun hp=>?_⟩
  obtain ⟨rfl,hF,hb⟩:=hA hp
  have get:∀(k:Nat) (x:α),xs[k]?=some x->(xs.map enc)[k]?=some (enc x):=fun k x hk=>by rw [List.getElem?_map,hk];rfl
  have hmn:m=R.n:=by
   have h1:=get 0 _ (List.getElem?_eq_getElem hp)
   rw [<- hl 0 _ h1,E.len]
  subst hmn
  let g:Nat->List Value:=fun k=>(List.range R.n).map (cell k)
  have hg:∀k,(g k).length=R.n:=fun k=>by simp [g]
  have gget:∀(k i:Nat),i<R.n->(g k)[i]?=some (cell k i):=fun k i hi=>by simp [g,hi]
  refine ⟨b,off,rfl,hF,hb,(List.range' 0 xs.length).flatMap g,all2_build xs 0 fun k x hk=>?_,fun j u hj=>?_⟩
  ·rw [Nat.zero_add]
   refine E.of (hg k) fun j y u hj hu=>?_
   have hlt:j<R.n:=by rw [<- E.len x];exact (List.getElem?_eq_some_iff.1 hj).1
   rw [gget k j hlt] at hu
   obtain rfl:=Option.some.inj hu
   exact hr k _ j y (get k x hk) hj
  ·obtain ⟨k,i,h1,h2,rfl,h4⟩:=flatMap_get hg _ _ _ _ hj
   rw [Nat.zero_add,gget k i h2] at h4
   obtain rfl:=Option.some.inj h4
   obtain ⟨x,hx⟩:∃x,xs[k]?=some x:=⟨_,List.getElem?_eq_getElem h1⟩
   exact hw k _ i _ (get k x hx) (List.getElem?_eq_getElem (by rw [E.len];exact h2))
theorem Enc.slice (E:Enc R enc) (h0:0<R.n):Enc R.slice (fun l=>[.sl (l.map enc)]):=by
 refine ⟨fun _=>rfl,fun x y hy=>?_,fun {W F x cs} hr j y u hj hu=>?_,fun {W F x cs} hl hp=>?_⟩
 ·obtain rfl:=List.mem_singleton.1 hy
  rfl
 ·obtain ⟨v,rfl,hs⟩:=hr
  cases j with
  | zero =>
   obtain rfl:=Option.some.inj hj
   obtain rfl:=Option.some.inj hu
   exact E.sl hs
  | succ j=>simp at hj
 ·obtain ⟨u,rfl⟩:=List.length_eq_one_iff.1 (show cs.length=1 from hl)
  exact ⟨u,rfl,E.slice_of h0 (hp 0 _ u rfl rfl)⟩
end
theorem u8_enc:Enc u8R (fun c=>[.y c]):=Enc.plain fun _=>rfl
theorem bytes_to {W:World} {F:Nat->Prop} {l:List UInt8} {v:Value} (h:SliceAt u8R W F l v):PRel W F (.sl (byteEls l)) v:=u8_enc.sl h
theorem bytes_of {W:World} {F:Nat->Prop} {l:List UInt8} {v:Value} (h:PRel W F (.sl (byteEls l)) v):SliceAt u8R W F l v:=u8_enc.slice_of (by show 0<1;omega) h
theorem PRel.agg_inv {W:World} {F:Nat->Prop} {cs:List AV} {v:Value} (h:PRel W F (.agg cs) v):∃vs:List Value,v = .agg vs.toArray/\vs.length=cs.length/\∀(j:Nat) (x:AV) (u:Value),cs[j]?=some x->vs[j]?=some u->PRel W F x u:=by
 cases h with
 | agg _ vs hl h1 hr=>exact ⟨vs,rfl,hl,hr⟩
theorem all_one {cs:List AV} (h:cs.all AV.one=true):∀(j:Nat) (x:AV),cs[j]?=some x->x.one=true:=fun j x hj=>List.all_eq_true.1 h x (List.mem_of_getElem? hj)
section
variable {P : Program} {f : FuncId} {x y : AV} {r : AV}
theorem PDoes.mk1 (hf : ∃ fn c, P.funcs[f]? = some fn /\ fn.body = some c /\ (fn.name == "runtime.NumGoroutine") = false) (h : ∀ (W : World) (F : Nat -> Prop) (v : Value), PRel W F x v -> (∀ b, F b -> b < W.heap.size) ->
  Calls P f #[v] W fun e W'=>∃v,e = .returned v/\Kp No W W'/\PRel W' (fun b=>F b\/(W.heap.size<=b/\b<W'.heap.size)) r v):PDoes P f [x] r :=
 ⟨hf,fun W F vs hl hv hF _=>by
  match vs,hl with
  | [v],_=>exact h W F v (hv 0 _ _ rfl rfl) hF⟩
theorem PDoes.mk2 (hf : ∃ fn c, P.funcs[f]? = some fn /\ fn.body = some c /\ (fn.name == "runtime.NumGoroutine") = false) (h : ∀ (W : World) (F : Nat -> Prop) (v u : Value), PRel W F x v -> PRel W F y u -> (∀ b, F b -> b < W.heap.size) ->
  Calls P f #[v,u] W fun e W'=>∃v,e = .returned v/\Kp No W W'/\PRel W' (fun b=>F b\/(W.heap.size<=b/\b<W'.heap.size)) r v):PDoes P f [x,y] r :=
 ⟨hf,fun W F vs hl hv hF _=>by
  match vs,hl with
  | [v,u],_=>exact h W F v u (hv 0 _ _ rfl rfl) (hv 1 _ _ rfl rfl) hF⟩
theorem PRel.new {W W':World} {F:Nat->Prop} {x:AV} {v:Value} (h:PRel W' (From W.heap.size) x v):PRel W' (fun b=>F b\/(W.heap.size<=b/\b<W'.heap.size)) x v:=h.keep (fun _ _ _=>rfl) fun b hb hlt=>.inr ⟨hb,hlt⟩
theorem PRel.tup2 {W:World} {F:Nat->Prop} {x y:AV} {v u:Value} (h1:PRel W F x v) (h2:PRel W F y u):PRel W F (.tup [x,y]) (.tuple #[v,u]):=.tup [x,y] [v,u] rfl (pw_cons h1 (pw_cons h2 pw_nil))
end
end Go.Proofs.YthgbdoofchknhaaGreatDoor.Sm
end
section
namespace Go.Proofs.YthgbdoofchknhaaGreatDoor.Sm
open Go.RowKit Go.WideShapes Go.ChangeShapes Go.Deep
structure PWs (W:World) (F:Nat->Prop) (xs:List AV) (cs:List Value):Prop where
 len:cs.length=xs.length
 one:∀(j:Nat) (x:AV),xs[j]?=some x->x.one=true
 rel:∀(j:Nat) (x:AV) (v:Value),xs[j]?=some x->cs[j]?=some v->PRel W F x v
theorem PRel.one_cell {W:World} {F:Nat->Prop} {x:AV} {v:Value} (h:PRel W F x v) (h1:x.one=true):v.oneCell'=true:=by
 cases h <;> first | rfl | exact h1 | (simp [AV.one] at h1;done)
theorem PRel.widen {W:World} {F F':Nat->Prop} {x:AV} {v:Value} (h:PRel W F x v) (hF:∀b,b<W.heap.size->F b->F' b):PRel W F' x v:=h.keep (fun _ _ _=>rfl) fun b hb hlt=>hF b hlt hb
theorem PWs.single {W:World} {F:Nat->Prop} {x:AV} {v:Value} (h:PRel W F x v) (h1:x.one=true):PWs W F [x] [v]:=by
 refine ⟨rfl,fun j y hj=>?_,fun j y u hj hu=>?_⟩
 ·cases j with
  | zero=>obtain rfl:=Option.some.inj hj;exact h1
  | succ j=>simp at hj
 ·cases j with
  | zero=>obtain rfl:=Option.some.inj hj;obtain rfl:=Option.some.inj hu;exact h
  | succ j=>simp at hj
theorem PWs.nil {W:World} {F:Nat->Prop} {cs:List Value} {n:Nat} (h:cs.length=n):PWs W F [] (cs.drop n) :=
 ⟨by simp [h],fun j x hj=>by simp at hj,fun j x v hj _=>by simp at hj⟩
theorem PWs.join {W:World} {F:Nat->Prop} {xs ys:List AV} {cs:List Value} {o n:Nat} (h:PWs W F xs ((cs.drop o).take n)) (hn:xs.length=n) (h':PWs W F ys (cs.drop (o+n))):PWs W F (xs++ys) (cs.drop o):=by
 have hl:=h.len
 have hl':=h'.len
 rw [List.length_take,List.length_drop] at hl
 rw [List.length_drop] at hl'
 refine ⟨by simp only [List.length_drop,List.length_append];omega,fun j x hj=>?_,fun j x v hj hv=>?_⟩
 ·rw [List.getElem?_append] at hj
  split at hj
  ·exact h.one j x hj
  ·exact h'.one _ x hj
 ·rw [List.getElem?_append] at hj
  split at hj
  ·rename_i hlt
   refine h.rel j x v hj ?_
   rw [List.getElem?_take,if_pos (by omega)]
   exact hv
  ·rename_i hge
   refine h'.rel _ x v hj ?_
   rw [List.getElem?_drop] at hv ⊢
   rw [<- hv]
   congr 1
   omega
theorem PWs.all {W:World} {F:Nat->Prop} {xs:List AV} {cs:List Value} (h:PWs W F xs (cs.drop 0)):PWs W F xs cs:=by rwa [List.drop_zero] at h
structure ReadA {α:Type} (P:Program) (t:TypeId) (n:Nat) (enc:α->List AV):Prop where
 len:∀a,(enc a).length=n
 one:∀a,∀y∈enc a,y.one=true
 read:∀(H:Type) (e:TypeId × Value->H) (w:World) (base:Nat) (spare:Nat->Bool) (held:Bool) (fuel:Nat) (cs:List Value) (x:DataW H × List MemPlace),
  DataW.trod e P w base spare held fuel t cs=some x->∃a:α,PWs w (fun b=>b<w.heap.size) (enc a) cs
def avR {α:Type} (n:Nat) (enc:α->List AV) (hn:∀a,(enc a).length=n) (h1:∀a,∀y∈enc a,y.one=true):Rep α where
 n:=n
 rel:=fun W F x cs=>PWs W F (enc x) cs
 len:=fun h=>by rw [h.len];exact hn _
 one:=fun {w F x cs} h u hu=>by
  obtain ⟨j,hj⟩:=List.getElem?_of_mem hu
  obtain ⟨y,hy⟩:∃y,(enc x)[j]?=some y:=⟨_,List.getElem?_eq_getElem (by rw [<- h.len];exact (List.getElem?_eq_some_iff.1 hj).1)⟩
  exact (h.rel j y u hy hj).one_cell (h.one j y hy)
 keep:=fun h hk=>⟨h.len,h.one,fun j x v hj hv=>(h.rel j x v hj hv).keep hk fun b hb _=>hb⟩
 mono:=fun h hF=>⟨h.len,h.one,fun j x v hj hv=>(h.rel j x v hj hv).widen hF⟩
theorem avR_enc {α:Type} {n:Nat} {enc:α->List AV} (hn:∀a,(enc a).length=n) (h1:∀a,∀y∈enc a,y.one=true):Enc (avR n enc hn h1) enc :=
 ⟨hn,h1,fun h j y u hj hu=>h.rel j y u hj hu,fun {W F x cs} hl h=>⟨by rw [hl,hn];rfl,fun j y hj=>h1 x y (List.mem_of_getElem? hj),fun j y v hj hv=>h j y v hj hv⟩⟩
section
variable {P : Program} {t : TypeId}
theorem ReadA.readable {α:Type} {n:Nat} {enc:α->List AV} (h:ReadA P t n enc):Readable P t (avR n enc h.len h.one):=fun H e w base spare held fuel cs x hx=>h.read H e w base spare held fuel cs x hx
theorem ReadA.of {α:Type} {R:Rep α} {enc:α->List AV} (E:Enc R enc) (h:Readable P t R):ReadA P t R.n enc :=
 ⟨E.len,E.one,fun H e w base spare held fuel cs x hx=>by
  obtain ⟨a,ha⟩:=h H e w base spare held fuel cs x hx
  exact ⟨a,by rw [R.len ha,E.len],fun j y hj=>E.one a y (List.mem_of_getElem? hj),fun j y v hj hv=>E.to ha j y v hj hv⟩⟩
theorem ReadA.slice {α:Type} {e:TypeId} {n:Nat} {enc:α->List AV} (h:ReadA P e n enc) (ht:P.underlying t=some (.slice e)) (hn:P.cellsOf e=n) (h0:0<n):ReadA P t 1 (fun l:List α=>[.sl (l.map enc)]) :=
 .of (R:=(avR n enc h.len h.one).slice) ((avR_enc h.len h.one).slice h0) (h.readable.slice ht hn h0)
theorem ReadA.u64 (ht:P.underlying t=some (.int .u64)):ReadA P t 1 (fun x:UInt64=>[.u x]) :=
  ⟨fun _=>rfl,fun _ y hy=>by obtain rfl:=List.mem_singleton.1 hy;rfl,fun H e w base spare held fuel cs x hx=>by
    obtain ⟨n,rfl,_,hw⟩:=DataW.trod_int ht hx
    obtain ⟨y,rfl⟩:=wf_u64 hw
    exact ⟨y,.single (.u _) rfl⟩⟩
theorem ReadA.u8 (ht:P.underlying t=some (.int .u8)):ReadA P t 1 (fun x:UInt8=>[.y x]) :=
  ⟨fun _=>rfl,fun _ y hy=>by obtain rfl:=List.mem_singleton.1 hy;rfl,fun H e w base spare held fuel cs x hx=>by
    obtain ⟨n,rfl,_,hw⟩:=DataW.trod_int ht hx
    obtain ⟨y,rfl⟩:=wf_u8 hw
    exact ⟨y,.single (.y _) rfl⟩⟩
theorem ReadA.bool (ht:P.underlying t=some .bool):ReadA P t 1 (fun x:Bool=>[.b x]) :=
  ⟨fun _=>rfl,fun _ y hy=>by obtain rfl:=List.mem_singleton.1 hy;rfl,fun H e w base spare held fuel cs x hx=>by
    obtain ⟨b,rfl,_⟩:=DataW.trod_bool ht hx
    exact ⟨b,.single (.b _) rfl⟩⟩
theorem ReadA.str (ht:P.underlying t=some .string):ReadA P t 1 (fun x:List UInt8=>[.s x]) :=
  ⟨fun _=>rfl,fun _ y hy=>by obtain rfl:=List.mem_singleton.1 hy;rfl,fun H e w base spare held fuel cs x hx=>by
    obtain ⟨s,rfl,_⟩:=DataW.trod_string ht hx
    exact ⟨s.data.toList,.single (.s s.data.toList) rfl⟩⟩
theorem ReadA.part {α:Type} {ty n off:Nat} {enc:α->List AV} (h:ReadA P ty n enc) {H:Type} {e:TypeId × Value->H} {w:World} {base:Nat} {spare:Nat->Bool} {held:Bool} {cs:List Value} {m:Nat}
  (hp:∃y,DataW.trod e P w base spare held m ty ((cs.drop off).take n)=some y):∃a:α,PWs w (fun b=>b<w.heap.size) (enc a) ((cs.drop off).take n):=by
 obtain ⟨y,hy⟩:=hp
 exact h.read H e w base spare held m _ y hy
theorem array_part {n:Nat} {el:TypeId} (ht:P.underlying t=some (.array n el)) {H:Type} {e:TypeId × Value->H} {w:World} {base:Nat} {spare:Nat->Bool} {held:Bool} {fuel:Nat} {cs:List Value} {x:DataW H × List MemPlace}
  (hx:DataW.trod e P w base spare held fuel t cs=some x):∃m,cs.length=P.cellsOf t/\∀(j off k:Nat),j<n->P.cellsOf el=k->j*k=off->∃y,DataW.trod e P w base spare held m el ((cs.drop off).take k)=some y:=by
 obtain ⟨xs,m,_,_,hl,hxs,hf⟩:=DataW.trod_array ht hx
 refine ⟨m,hl,fun j off k hj hk ho=>?_⟩
 have h:=hf j hj
 subst hk ho
 exact ⟨xs[j]'(by omega),by rw [h,List.getElem?_eq_getElem (by omega)]⟩
variable {H : Type} {e : TypeId × Value -> H} {W : World} {base b0 : Nat} {spare : Nat -> Bool} {held : Bool} {v : Value} {d : DataW H} {p : List MemPlace}
theorem ReadA.arg_struct {α:Type} {n:Nat} {enc:α->List AV} (h:ReadA P t n enc) {fs:Array Field} (ht:P.underlying t=some (.struct fs)) (ho:Value.okWide P W .any b0 t v) (hd:DataW.Trod e P W base spare held t v d p) :
  ∃a:α,PRel W (fun b=>b<W.heap.size) (.agg (enc a)) v:=by
 obtain ⟨cs,rfl,hs⟩:=okWide_struct ht ho
 obtain ⟨fuel,hf⟩:=hd
 obtain ⟨a,ha⟩:=h.read H e W base spare held fuel _ _ hf
 have hc:(Value.cells (.agg cs)).toList=cs.toList:=by simp [Value.cells]
 rw [hc] at ha
 refine ⟨a,?_⟩
 have:=PRel.agg (W:=W) (F:=fun b=>b<W.heap.size) (enc a) cs.toList ha.len ha.one ha.rel
 simpa using this
theorem ReadA.arg_one {α:Type} {g:α->AV} (h:ReadA P t 1 (fun a=>[g a])) (hc:v.cells.toList=[v]) (hd:DataW.Trod e P W base spare held t v d p) :
  ∃a:α,PRel W (fun b=>b<W.heap.size) (g a) v:=by
 obtain ⟨fuel,hf⟩:=hd
 obtain ⟨a,ha⟩:=h.read H e W base spare held fuel _ _ hf
 rw [hc] at ha
 exact ⟨a,ha.rel 0 _ v rfl rfl⟩
theorem ReadA.arg_str {α:Type} {g:α->AV} (h:ReadA P t 1 (fun a=>[g a])) (ht:P.underlying t=some .string) (ho:Value.okWide P W .any b0 t v) (hd:DataW.Trod e P W base spare held t v d p) :
  ∃a:α,PRel W (fun b=>b<W.heap.size) (g a) v:=by
 obtain ⟨n,rfl⟩:=okWide_string ht ho
 exact h.arg_one (by simp [Value.cells]) hd
theorem PDoes.law {f:FuncId} {args:List AV} {vs:List Value} (h:PDoes P f args (.b true)) (hl:vs.length=args.length)
  (hv:∀(j:Nat) (x:AV) (v:Value),args[j]?=some x->vs[j]?=some v->PRel W (fun b=>b<W.heap.size) x v) (hL:LayL W (fun b=>b<W.heap.size):=by exact layAny _ _):Calls P f vs.toArray W fun e W'=>e = .returned (.bool true)/\Kp No W W':=by
 refine (h.calls W (fun b=>b<W.heap.size) vs hl hv (fun _ hb=>hb) hL).mono ?_
 rintro e W' ⟨v,rfl,hk,hr⟩
 cases hr
 exact ⟨rfl,hk⟩
end
theorem i64_next {k n:Nat} (h:k<n) (hn:n<=9223372036854775807):AV.i .i64 (IntKind.i64.wrap ((k:Int)+1)) = .i .i64 ((k+1:Nat):Int):=by
 rw [show IntKind.i64.wrap ((k:Int)+1)=(k:Int)+1 by rw [IntKind.wrap_i64];omega]
 rfl
end Go.Proofs.YthgbdoofchknhaaGreatDoor.Sm
end
end
section
namespace Go.Proofs.YthgbdoofchknhaaGreatDoor.Sm
open Go.RowKit
theorem PDoes.mkL1 {P : Program} {f : FuncId} {x r : AV} (hf : ∃ fn c, P.funcs[f]? = some fn /\ fn.body = some c /\ (fn.name == "runtime.NumGoroutine") = false) (h : ∀ (W : World) (F : Nat -> Prop) (v : Value), PRel W F x v -> (∀ b, F b -> b < W.heap.size) -> LayL W F ->
  Calls P f #[v] W fun e W'=>∃v,e = .returned v/\Kp No W W'/\PRel W' (fun b=>F b\/(W.heap.size<=b/\b<W'.heap.size)) r v):PDoes P f [x] r :=
 ⟨hf,fun W F vs hl hv hF hL=>by
  match vs,hl with
  | [v],_=>exact h W F v (hv 0 _ _ rfl rfl) hF hL⟩
theorem PDoes.mkL2 {P : Program} {f : FuncId} {x y r : AV} (hf : ∃ fn c, P.funcs[f]? = some fn /\ fn.body = some c /\ (fn.name == "runtime.NumGoroutine") = false) (h : ∀ (W : World) (F : Nat -> Prop) (v u : Value), PRel W F x v -> PRel W F y u -> (∀ b, F b -> b < W.heap.size) -> LayL W F ->
  Calls P f #[v,u] W fun e W'=>∃v,e = .returned v/\Kp No W W'/\PRel W' (fun b=>F b\/(W.heap.size<=b/\b<W'.heap.size)) r v):PDoes P f [x,y] r :=
 ⟨hf,fun W F vs hl hv hF hL=>by
  match vs,hl with
  | [v,u],_=>exact h W F v u (hv 0 _ _ rfl rfl) (hv 1 _ _ rfl rfl) hF hL⟩
theorem pr_i {W:World} {F:Nat->Prop} {k:IntKind} {n:Int} {v:Value} (h:PRel W F (.i k n) v):v = .int k n:=by cases h;rfl
theorem pr_s {W:World} {F:Nat->Prop} {l:List UInt8} {v:Value} (h:PRel W F (.s l) v):v = .string ⟨l.toArray⟩:=by cases h;rfl
theorem kp_grow {W:World} {k:Nat} {os:Array Obj}:Kp No W (Go.Sort.grow (W.drewN k) os):=by
 refine ⟨rfl,rfl,rfl,by simp [Go.Sort.grow],fun b hb _=>?_⟩
 simp only [Go.Sort.grow]
 rw [Array.getElem?_append_left (by simpa using hb)]
 rfl
theorem d_Itoa (n:Int) (h0:-9223372036854775808<=n) (h1:n<=9223372036854775807):PDoes Tryz.prog 30 [.i .i64 n] (.s (Lib.itoa n)):=by
 refine PDoes.mkL1 ⟨_,_,Tryz.func30,rfl,by kernel_rfl⟩ fun W F v hv hF hL=>?_
 obtain rfl:=pr_i hv
 refine (Tryz.strconv_Itoa n h0 h1 W hL.2.pow).mono ?_
 rintro e W' ⟨rfl,k,os,rfl⟩
 exact ⟨_,rfl,kp_grow,.s _⟩
theorem kp_below {W W':World} (h:Below W.heap.size W W'):Kp No W W':=⟨h.os,h.tape,h.output,h.size,fun k hk _=>h.block k hk⟩
theorem kp_bytes {W:World} {e:TypeId} {s:ByteArray}:Kp No W (Lib.bytesWorld W e s):=by
 refine ⟨rfl,rfl,rfl,?_,fun b hb _=>Lib.bytesWorld_at_old W e s b hb⟩
 simp [Lib.bytesWorld,World.freeze,World.alloc,World.drew,-World.alloc_eq,-World.drew_eq]
def atoiV (l:List UInt8):Int:=match Lib.atoiAll l with
 | .ok v=>v
 | .range=>Lib.atoiSat l
 | _=>0
theorem d_Atoi (l:List UInt8) (hl:l.length<=281474976710656):PDoes Tryz.prog 56 [.s l] (.tup [.i .i64 (atoiV l),.any]):=by
 refine PDoes.mkL1 ⟨_,_,Tryz.func56,rfl,by kernel_rfl⟩ fun W F v hv hF hL=>?_
 obtain rfl:=pr_s hv
 have hz:(⟨l.toArray⟩:ByteArray).size=l.length:=by show l.toArray.size=_;simp
 unfold atoiV
 cases h:Lib.atoiAll l with
 | ok n =>
  refine (Tryz.strconv_Atoi_ok ⟨l.toArray⟩ (by omega) n h W).mono ?_
  rintro e W' ⟨rfl,h1⟩
  refine ⟨_,rfl,?_,.tup2 (.i _ _) (.any _)⟩
  rcases h1 with rfl | ⟨t,rfl⟩
  ·exact Kp.refl _ _
  ·exact kp_bytes
 | range =>
  obtain ⟨ev,h1,h2⟩:=hL.2.rng
  refine (Tryz.strconv_Atoi_range ⟨l.toArray⟩ (by omega) h ev W h1 h2).mono ?_
  rintro e W' ⟨N,rfl,_,_,hb⟩
  exact ⟨_,rfl,kp_below hb,.tup2 (.i _ _) (.any _)⟩
 | _ =>
  obtain ⟨ev,h1,h2⟩:=hL.2.syn
  refine (Tryz.strconv_Atoi_syntax ⟨l.toArray⟩ (by omega) h ev W h1 h2).mono ?_
  rintro e W' ⟨N,rfl,_,_,hb⟩
  exact ⟨_,rfl,kp_below hb,.tup2 (.i _ _) (.any _)⟩
theorem d_Cut (l sep:List UInt8) (hl:l.length<4294967281):PDoes Tryz.prog 26 [.s l,.s sep] (.tup [.s (Lib.cut l sep).1,.s (Lib.cut l sep).2.1,.b (Lib.cut l sep).2.2]):=by
 refine PDoes.mkL2 ⟨_,_,Tryz.func26,rfl,by kernel_rfl⟩ fun W F v u hv hu hF hL=>?_
 obtain rfl:=pr_s hv
 obtain rfl:=pr_s hu
 obtain ⟨m,hm⟩:=hL.2.max
 have hz:(⟨l.toArray⟩:ByteArray).size=l.length:=by show l.toArray.size=_;simp
 refine (Tryz.strings_Cut ⟨l.toArray⟩ ⟨sep.toArray⟩ m W (by omega) hm).mono ?_
 rintro e W' ⟨rfl,n,rfl⟩
 exact ⟨_,rfl,Kp.drewN (Kp.refl _ _) _,.tup [_,_,_] [_,_,_] rfl (pw_cons (.s _) (pw_cons (.s _) (pw_cons (.b _) pw_nil)))⟩
theorem d_IndexByte (l:List UInt8) (c:UInt8):PDoes Tryz.prog 90 [.s l,.y c] (.i .i64 (Lib.indexByte l c)):=by
 refine PDoes.mkL2 ⟨_,_,Tryz.func90,rfl,by kernel_rfl⟩ fun W F v u hv hu hF hL=>?_
 obtain rfl:=pr_s hv
 obtain rfl:u = .int .u8 c.toNat:=by cases hu;rfl
 refine (Tryz.strings_IndexByte ⟨l.toArray⟩ c.toNat W).mono ?_
 rintro e W' ⟨rfl,rfl⟩
 have hc:((c.toNat:Int).toNat).toUInt8=c:=by simp
 rw [hc]
 exact ⟨_,rfl,Kp.refl _ _,.i _ _⟩
theorem d_Repeat (l:List UInt8) (c:Nat) (h:l.length*c<=140737488355328) (hc:c<=9223372036854775807):PDoes Tryz.prog 49 [.s l,.i .i64 c] (.s (Lib.repeatL l c)):=by
 refine PDoes.mkL2 ⟨_,_,Tryz.func49,rfl,by kernel_rfl⟩ fun W F v u hv hu hF hL=>?_
 obtain rfl:=pr_s hv
 obtain rfl:=pr_i hu
 have hz:(⟨l.toArray⟩:ByteArray).size=l.length:=by show l.toArray.size=_;simp
 refine (Tryz.strings_Repeat ⟨l.toArray⟩ c W hc (by rw [hz];exact h)).mono ?_
 rintro e W' ⟨rfl,hb⟩
 exact ⟨_,rfl,kp_below hb,.s _⟩
def strEls (xs:List (List UInt8)):List (List AV):=xs.map fun x=>[.s x]
theorem strs_new {W:World} {F:Nat->Prop} {t:TypeId} (xs:List (List UInt8)) (vs:List Value) (hv:vs=xs.map fun x=>.string ⟨x.toArray⟩) (hF:F W.heap.size) (hm:xs.length<=maxLen) {n:Nat} (hn:n=xs.length) :
  PRel (W.alloc (.cells vs.toArray t)) F (.sl (strEls xs)) (.slice (some ⟨W.heap.size,0,none⟩) n n):=by
 subst hv hn
 have hl:(strEls xs).length=xs.length:=by simp [strEls]
 have key:PRel (W.alloc (.cells (xs.map fun x=>Value.string ⟨x.toArray⟩).toArray t)) F (.sl (strEls xs)) (.slice (some ⟨W.heap.size,0,none⟩) (strEls xs).length xs.length):=by
  refine .sl (strEls xs) _ _ 1 W.heap.size 0 (fun k _=>.string ⟨(xs.getD k []).toArray⟩) (by omega) hm (fun _=>⟨rfl,hF,by simp⟩) ?_ ?_ ?_ ?_
  ·intro k cs hk
   simp only [strEls,List.getElem?_map] at hk
   obtain ⟨x,_,rfl⟩:=Option.map_eq_some_iff.1 hk
   rfl
  ·intro k cs j x hk hj
   simp only [strEls,List.getElem?_map] at hk
   obtain ⟨y,_,rfl⟩:=Option.map_eq_some_iff.1 hk
   cases j with
   | zero=>cases hj;rfl
   | succ j=>simp at hj
  ·intro k cs j x hk hj
   simp only [strEls,List.getElem?_map] at hk
   obtain ⟨y,hy,rfl⟩:=Option.map_eq_some_iff.1 hk
   cases j with
   | zero =>
    cases hj
    simp only [List.getD_eq_getElem?_getD,hy,Option.getD_some]
    exact .s _
   | succ j=>simp at hj
  ·intro k cs j x hk hj
   simp only [strEls,List.getElem?_map] at hk
   obtain ⟨y,hy,rfl⟩:=Option.map_eq_some_iff.1 hk
   cases j with
   | zero =>
    have e:(W.alloc (.cells (xs.map fun x=>Value.string ⟨x.toArray⟩).toArray t)).heap[W.heap.size]?=some (.cells (xs.map fun x=>Value.string ⟨x.toArray⟩).toArray t (0,0)):=heap_alloc_new W _
    simp only [World.cell?,e]
    simp [hy]
   | succ j=>simp at hj
 rw [hl] at key
 exact key
def spl (c:UInt8) (l:List UInt8):List (List UInt8):=Lib.splitK [c] 0 (Lib.count l [c]) l
theorem d_Split (l:List UInt8) (c:UInt8) (hl:l.length<4294967281):PDoes Tryz.prog 24 [.s l,.s [c]] (.sl (strEls (spl c l))):=by
 refine PDoes.mkL2 ⟨_,_,Tryz.func24,rfl,by kernel_rfl⟩ fun W F v u hv hu hF hL=>?_
 obtain rfl:=pr_s hv
 obtain rfl:=pr_s hu
 obtain ⟨m,hm⟩:=hL.2.max
 have hz:(⟨l.toArray⟩:ByteArray).size=l.length:=by show l.toArray.size=_;simp
 have h1:1<=(⟨[c].toArray⟩:ByteArray).size:=Nat.le_refl 1
 refine (Tryz.strings_Split ⟨l.toArray⟩ ⟨[c].toArray⟩ m W (by omega) hm h1).mono ?_
 rintro e W' ⟨rfl,rfl⟩
 refine ⟨_,rfl,(Kp.refl _ W).alloc _,?_⟩
 have hd:=Lib.splitB_data ⟨[c].toArray⟩ 0 (Lib.countB ⟨l.toArray⟩ ⟨[c].toArray⟩) ⟨l.toArray⟩
 have hd':(Lib.splitB ⟨[c].toArray⟩ 0 (Lib.countB ⟨l.toArray⟩ ⟨[c].toArray⟩) ⟨l.toArray⟩).map (·.data.toList)=spl c l:=hd
 have hlen:=Lib.splitB_all ⟨[c].toArray⟩ h1 0 _ ⟨l.toArray⟩ rfl
 have hle:=Lib.countB_le ⟨[c].toArray⟩ h1 l.length ⟨l.toArray⟩ (by omega)
 have hll:(spl c l).length=Lib.countB ⟨l.toArray⟩ ⟨[c].toArray⟩+1:=by rw [<- hd',List.length_map,hlen]
 refine strs_new (spl c l) _ ?_ (.inr ⟨Nat.le_refl _,by simp⟩) (Nat.le_trans (show _<=4294967281 by omega) (by decide)) hll.symm
 rw [<- hd',List.map_map]
 rfl
theorem d_Join (ws:List (List UInt8)) (sep:List UInt8) (h0:ws≠[]) (hwl':ws.length<=140737488355328) (hl:(Lib.join ws sep).length<=140737488355328):PDoes Tryz.prog 19 [.sl (strEls ws),.s sep] (.s (Lib.join ws sep)):=by
 refine PDoes.mkL2 ⟨_,_,Tryz.func19,rfl,by kernel_rfl⟩ fun W F v u hv hu hF hL=>?_
 obtain rfl:=pr_s hu
 have hwl:(strEls ws).length=ws.length:=by simp [strEls]
 have hpos:0<ws.length:=List.length_pos_iff.2 h0
 cases hv with
 | sl els A c m b off cell hc hm hA hln h1 hr hw =>
  obtain ⟨rfl,hb,hlt⟩:=hA (by omega)
  have hm1:m=1:=by
   have:=hln 0 [.s ws[0]] (by simp [strEls,List.getElem?_eq_getElem hpos])
   simpa using this.symm
  subst hm1
  have hxs:((ws.map fun x=>(⟨x.toArray⟩:ByteArray)).map (·.data.toList))=ws:=by
   rw [List.map_map]
   conv=>rhs;rw [<- List.map_id ws]
   rfl
  have key:=Tryz.strings_Join b off c (ws.map fun x=>⟨x.toArray⟩) ⟨sep.toArray⟩ W (fun j x hj=>by
   rw [List.getElem?_map] at hj
   obtain ⟨y,hy,rfl⟩:=Option.map_eq_some_iff.1 hj
   have e1:(strEls ws)[j]?=some [.s y]:=by simp [strEls,hy]
   have e2:=hr j _ 0 _ e1 rfl
   have e3:=hw j _ 0 _ e1 rfl
   rw [pr_s e2] at e3
   simpa using e3) hlt (by rw [List.length_map];exact hwl') (by rw [List.length_map];omega) (by rw [hxs];exact hl)
  rw [hxs,List.length_map] at key
  rw [hwl]
  refine key.mono ?_
  rintro e W' ⟨rfl,hb'⟩
  exact ⟨_,rfl,kp_below hb',.s _⟩
end Go.Proofs.YthgbdoofchknhaaGreatDoor.Sm
end
section
namespace Go.Proofs.YthgbdoofchknhaaGreatDoor
open Go.RowKit
theorem u8_or32 (c:UInt8):bits .or .u8 (c.toNat:Int) 32=((c ||| 32).toNat:Int):=by
 have key:∀m:Fin 256,bits .or .u8 ((m.val:Nat):Int) 32=(((UInt8.ofNat m.val) ||| 32).toNat:Int):=by decide +kernel
 have:=key ⟨c.toNat,u8_lt c⟩
 simpa using this
def dig16 (c:UInt8):Nat:=if 48<=c.toNat/\c.toNat<=57 then c.toNat - 48 else if 97<=(c ||| 32).toNat/\(c ||| 32).toNat<=122 then (c ||| 32).toNat - 87 else 99
abbrev badN:Lib.NumEnd Nat:=Lib.parseMag []
def pu16 (acc:Nat):List UInt8->Lib.NumEnd Nat
 | []=>.ok acc
 | c::r=>if dig16 c<16 then (if 1152921504606846976<=acc then .range else pu16 (acc*16+dig16 c) r) else badN
def puL (l:List UInt8):Lib.NumEnd Nat:=if l=[] then badN else pu16 0 l
set_option maxHeartbeats 4000000 in
set_option maxRecDepth 1000000 in
theorem pu_inner (w : World) (l : List UInt8) (hl : l ≠ []) (hm : l.length <= 281474976710656) :
    Calls Tryz.prog 87 #[.string ⟨l.toArray⟩,.int .i64 16,.int .i64 64] w fun e w'=>e = .returned (Lib.uintTuple 181 (pu16 0 l))/\Kp No w w':=by
  have hne:l.isEmpty=false:=by cases l with | nil=>exact absurd rfl hl | cons=>rfl
  have hz:(⟨l.toArray⟩:ByteArray).size=l.length:=by show l.toArray.size=_;simp
  have hmx:IntKind.u64.wrap (IntKind.u64.wrap 18446744073709551616 - 1)=18446744073709551615:=by kernel_rfl
  go_enter Tryz.func87,Tryz.ntmps87
  go_wp2_with fail
  rw [Lib.run_convert_string_bytes (u:=.string) w _ _ 5 _ (by kernel_rfl) (by kernel_rfl) (by kernel_rfl)]
  simp only [Result.andThen]
  rw [Oper.upon_value]
  have hcell:∀(k:Nat) (x:UInt8),l[k]?=some x->(Lib.bytesWorld w 5 ⟨l.toArray⟩).cell? ⟨w.heap.size,k,none⟩=some (.int .u8 x.toNat):=fun k x hk=>by
    have hlt:=(List.getElem?_eq_some_iff.1 hk).1
    have:=Lib.bytesWorld_cell w 5 ⟨l.toArray⟩ k (by rw [hz];exact hlt)
    rw [this]
    simp [List.getD_eq_getElem?_getD,hk]
  have Hk:=Lib.hid (Sm.kp_bytes (W:=w) (e:=5) (s:=⟨l.toArray⟩))
  have Hcell:=Lib.hid hcell
  clear hcell
  rw [hz]
  generalize Lib.bytesWorld w 5 ⟨l.toArray⟩=W at *
  generalize grownCap w l.length 0 5=cap
  go_wp2_with fail
  go_loop [13,101,12] (fun n i o=>o = .bool false/\∃k m:Nat,k<=l.length/\i = .int .i64 k/\n = .int .u64 m/\m<18446744073709551616/\pu16 m (l.drop k)=pu16 0 l) (fun _ i _=>l.length - (intOf i).toNat)
  case atStart=>exact ⟨rfl,0,0,Nat.zero_le _,rfl,rfl,by decide,rfl⟩
  case round =>
    obtain ⟨rfl,k,m,hk,rfl,rfl,hm64,hq⟩:=hrel
    have Hq:=Lib.hid hq
    clear hq
    by_cases hlt:k<l.length
    · have hc:=Hcell.out k l[k] (List.getElem?_eq_getElem hlt)
      have Hd:=Lib.hid (List.drop_eq_getElem_cons hlt)
      have Ho:=Lib.hid (u8_or32 l[k])
      have hc8:=u8_lt l[k]
      generalize hx:l[k]=x at *
      have q1:(k:Int)<(l.length:Int):=by omega
      by_cases hA:48<=x.toNat/\x.toNat<=57
      · have q2:¬((x.toNat:Int)=95):=by omega
        have q3:(48:Int)<=(x.toNat:Int):=by omega
        have q4:(x.toNat:Int)<=57:=by omega
        have q5:IntKind.u8.wrap ((x.toNat:Int) - 48)=((x.toNat - 48:Nat):Int):=by rw [IntKind.wrap_u8'];omega
        have q6:¬(16:Int)<=((x.toNat - 48:Nat):Int):=by omega
        have Hdg:=Lib.hid (show dig16 x=x.toNat - 48 by unfold dig16;rw [if_pos hA])
        generalize x.toNat - 48=d at *
        have hd16:d<16:=by omega
        have Hp:=Lib.hid (show pu16 0 l=if 1152921504606846976<=m then .range else pu16 (m*16+d) (l.drop (k+1)) by
          rw [<- Hq.out,Hd.out]
          show (if dig16 x<16 then (if 1152921504606846976<=m then _ else pu16 (m*16+dig16 x) _) else _)=_
          rw [Hdg.out,if_pos hd16])
        by_cases hcut:1152921504606846976<=m
        · have q7:(1152921504606846976:Int)<=(m:Int):=by omega
          go_wp2_with fail
          go_ret2
          refine ⟨?_,Hk.out⟩
          rw [Hp.out,if_pos hcut]
          rfl
        · have q7:¬(1152921504606846976:Int)<=(m:Int):=by omega
          have q8:IntKind.u64.wrap ((m:Int)*16)=((m*16:Nat):Int):=by rw [IntKind.wrap_u64];omega
          have q9:IntKind.u64.wrap (d:Int)=(d:Int):=by rw [IntKind.wrap_u64];omega
          have q10:IntKind.u64.wrap (((m*16:Nat):Int)+(d:Int))=((m*16+d:Nat):Int):=by rw [IntKind.wrap_u64];omega
          have q11:¬((m*16+d:Nat):Int)<((m*16:Nat):Int):=by omega
          have q12:¬(18446744073709551615:Int)<((m*16+d:Nat):Int):=by omega
          go_wp2_with fail
          go_round
          case rel=>exact ⟨rfl,k+1,m*16+d,by omega,by go_num,rfl,by omega,by rw [Hp.out,if_neg hcut]⟩
          case measure=>simp [intOf];omega
      · have Hdg:=Lib.hid (show dig16 x=if 97<=(x ||| 32).toNat/\(x ||| 32).toNat<=122 then (x ||| 32).toNat - 87 else 99 by unfold dig16;rw [if_neg hA])
        have qo:=Ho.out
        have hy8:=u8_lt (x ||| 32)
        have h95:x=95->(x ||| 32).toNat=127:=fun e=>by subst e;rfl
        generalize (x ||| 32).toNat=y at *
        have hsyn:¬dig16 x<16->pu16 0 l=badN:=fun h=>by
          rw [<- Hq.out,Hd.out]
          show (if dig16 x<16 then _ else _)=_
          rw [if_neg h]
        have Hsyn:=Lib.hid hsyn
        clear hsyn
        by_cases hx95:x.toNat=95
        · have e95:x=95:=UInt8.toNat_inj.1 hx95
          have hy:=h95 e95
          have Hdg:=Lib.hid (show ¬dig16 x<16 by rw [Hdg.out,if_neg (by omega)];decide)
          have q2:(x.toNat:Int)=95:=by omega
          have q3:bits .or .u8 95 32=127:=by kernel_rfl
          clear h95 qo
          go_wp2_with fail;refine (Tryz.internal_strconv_lower _ _).mono ?_;rintro e w1 ⟨rfl,rfl⟩;go_wp2_with fail;refine (Tryz.internal_strconv_lower _ _).mono ?_;rintro e w1 ⟨rfl,rfl⟩
          go_wp2_with fail
          go_ret2
          refine ⟨?_,Hk.out⟩
          rw [Hsyn.out Hdg.out]
          rfl
        have q2:¬(x.toNat:Int)=95:=by omega
        clear h95
        by_cases hB:97<=y/\y<=122
        · have r1:(97:Int)<=(y:Int):=by omega
          have r2:(y:Int)<=122:=by omega
          have r3:IntKind.u8.wrap ((y:Int) - 97)=((y - 97:Nat):Int):=by rw [IntKind.wrap_u8'];omega
          have r4:IntKind.u8.wrap (((y - 97:Nat):Int)+10)=((y - 87:Nat):Int):=by rw [IntKind.wrap_u8'];omega
          have Hdg:=Lib.hid (show dig16 x=y - 87 by rw [Hdg.out,if_pos hB])
          rcases (show (¬48<=x.toNat\/(48<=x.toNat/\¬x.toNat<=57)) by omega) with hx9 | hx9
          · have q2':True:=trivial
            have q3:¬(48:Int)<=(x.toNat:Int):=by omega
            go_wp2_with fail;refine (Tryz.internal_strconv_lower _ _).mono ?_;rintro e w1 ⟨rfl,rfl⟩;go_wp2_with fail;refine (Tryz.internal_strconv_lower _ _).mono ?_;rintro e w1 ⟨rfl,rfl⟩;go_wp2_with fail;refine (Tryz.internal_strconv_lower _ _).mono ?_;rintro e w1 ⟨rfl,rfl⟩
            go_upto_region 46 with (fail)
            clear qo r1 r2 r3 r4
            by_cases h16:y - 87<16
            · have q6:¬(16:Int)<=((y - 87:Nat):Int):=by omega
              generalize y - 97=z at *
              generalize y - 87=d at *
              have Hr:=Lib.hid (And.intro hB hy8)
              clear hB hy8 hx9
              have hd16:d<16:=by omega
              have Hp:=Lib.hid (show pu16 0 l=if 1152921504606846976<=m then .range else pu16 (m*16+d) (l.drop (k+1)) by
                rw [<- Hq.out,Hd.out]
                show (if dig16 x<16 then (if 1152921504606846976<=m then _ else pu16 (m*16+dig16 x) _) else _)=_
                rw [Hdg.out,if_pos hd16])
              by_cases hcut:1152921504606846976<=m
              · have q7:(1152921504606846976:Int)<=(m:Int):=by omega
                go_wp2_with fail
                go_ret2
                refine ⟨?_,Hk.out⟩
                rw [Hp.out,if_pos hcut]
                rfl
              · have q7:¬(1152921504606846976:Int)<=(m:Int):=by omega
                have q8:IntKind.u64.wrap ((m:Int)*16)=((m*16:Nat):Int):=by rw [IntKind.wrap_u64];omega
                have q9:IntKind.u64.wrap (d:Int)=(d:Int):=by rw [IntKind.wrap_u64];omega
                have q10:IntKind.u64.wrap (((m*16:Nat):Int)+(d:Int))=((m*16+d:Nat):Int):=by rw [IntKind.wrap_u64];omega
                have q11:¬((m*16+d:Nat):Int)<((m*16:Nat):Int):=by omega
                have q12:¬(18446744073709551615:Int)<((m*16+d:Nat):Int):=by omega
                go_wp2_with fail
                go_round
                case rel=>exact ⟨rfl,k+1,m*16+d,by omega,by go_num,rfl,by omega,by rw [Hp.out,if_neg hcut]⟩
                case measure=>simp [intOf];omega
            · have q6:(16:Int)<=((y - 87:Nat):Int):=by omega
              go_wp2_with fail
              go_ret2
              refine ⟨?_,Hk.out⟩
              rw [Hsyn.out (by rw [Hdg.out];exact h16)]
              rfl
          · have q2':True:=trivial
            have q3:(48:Int)<=(x.toNat:Int):=by omega
            have q4:¬(x.toNat:Int)<=57:=by omega
            go_wp2_with fail;refine (Tryz.internal_strconv_lower _ _).mono ?_;rintro e w1 ⟨rfl,rfl⟩;go_wp2_with fail;refine (Tryz.internal_strconv_lower _ _).mono ?_;rintro e w1 ⟨rfl,rfl⟩;go_wp2_with fail;refine (Tryz.internal_strconv_lower _ _).mono ?_;rintro e w1 ⟨rfl,rfl⟩
            go_upto_region 46 with (fail)
            clear qo r1 r2 r3 r4
            by_cases h16:y - 87<16
            · have q6:¬(16:Int)<=((y - 87:Nat):Int):=by omega
              generalize y - 97=z at *
              generalize y - 87=d at *
              have Hr:=Lib.hid (And.intro hB hy8)
              clear hB hy8 hx9
              have hd16:d<16:=by omega
              have Hp:=Lib.hid (show pu16 0 l=if 1152921504606846976<=m then .range else pu16 (m*16+d) (l.drop (k+1)) by
                rw [<- Hq.out,Hd.out]
                show (if dig16 x<16 then (if 1152921504606846976<=m then _ else pu16 (m*16+dig16 x) _) else _)=_
                rw [Hdg.out,if_pos hd16])
              by_cases hcut:1152921504606846976<=m
              · have q7:(1152921504606846976:Int)<=(m:Int):=by omega
                go_wp2_with fail
                go_ret2
                refine ⟨?_,Hk.out⟩
                rw [Hp.out,if_pos hcut]
                rfl
              · have q7:¬(1152921504606846976:Int)<=(m:Int):=by omega
                have q8:IntKind.u64.wrap ((m:Int)*16)=((m*16:Nat):Int):=by rw [IntKind.wrap_u64];omega
                have q9:IntKind.u64.wrap (d:Int)=(d:Int):=by rw [IntKind.wrap_u64];omega
                have q10:IntKind.u64.wrap (((m*16:Nat):Int)+(d:Int))=((m*16+d:Nat):Int):=by rw [IntKind.wrap_u64];omega
                have q11:¬((m*16+d:Nat):Int)<((m*16:Nat):Int):=by omega
                have q12:¬(18446744073709551615:Int)<((m*16+d:Nat):Int):=by omega
                go_wp2_with fail
                go_round
                case rel=>exact ⟨rfl,k+1,m*16+d,by omega,by go_num,rfl,by omega,by rw [Hp.out,if_neg hcut]⟩
                case measure=>simp [intOf];omega
            · have q6:(16:Int)<=((y - 87:Nat):Int):=by omega
              go_wp2_with fail
              go_ret2
              refine ⟨?_,Hk.out⟩
              rw [Hsyn.out (by rw [Hdg.out];exact h16)]
              rfl
        · have Hdg:=Lib.hid (show ¬dig16 x<16 by rw [Hdg.out,if_neg hB];decide)
          by_cases h97:97<=y
          · have r1:(97:Int)<=(y:Int):=by omega
            have r2:¬(y:Int)<=122:=by omega
            rcases (show (¬48<=x.toNat\/(48<=x.toNat/\¬x.toNat<=57)) by omega) with hx9 | hx9
            · have q2':True:=trivial
              have q3:¬(48:Int)<=(x.toNat:Int):=by omega
              go_wp2_with fail;refine (Tryz.internal_strconv_lower _ _).mono ?_;rintro e w1 ⟨rfl,rfl⟩;go_wp2_with fail;refine (Tryz.internal_strconv_lower _ _).mono ?_;rintro e w1 ⟨rfl,rfl⟩
              go_wp2_with fail
              go_ret2
              refine ⟨?_,Hk.out⟩
              rw [Hsyn.out Hdg.out]
              rfl
            · have q2':True:=trivial
              have q3:(48:Int)<=(x.toNat:Int):=by omega
              have q4:¬(x.toNat:Int)<=57:=by omega
              go_wp2_with fail;refine (Tryz.internal_strconv_lower _ _).mono ?_;rintro e w1 ⟨rfl,rfl⟩;go_wp2_with fail;refine (Tryz.internal_strconv_lower _ _).mono ?_;rintro e w1 ⟨rfl,rfl⟩
              go_wp2_with fail
              go_ret2
              refine ⟨?_,Hk.out⟩
              rw [Hsyn.out Hdg.out]
              rfl
          · have r1:¬(97:Int)<=(y:Int):=by omega
            rcases (show (¬48<=x.toNat\/(48<=x.toNat/\¬x.toNat<=57)) by omega) with hx9 | hx9
            · have q2':True:=trivial
              have q3:¬(48:Int)<=(x.toNat:Int):=by omega
              go_wp2_with fail;refine (Tryz.internal_strconv_lower _ _).mono ?_;rintro e w1 ⟨rfl,rfl⟩
              go_wp2_with fail
              go_ret2
              refine ⟨?_,Hk.out⟩
              rw [Hsyn.out Hdg.out]
              rfl
            · have q2':True:=trivial
              have q3:(48:Int)<=(x.toNat:Int):=by omega
              have q4:¬(x.toNat:Int)<=57:=by omega
              go_wp2_with fail;refine (Tryz.internal_strconv_lower _ _).mono ?_;rintro e w1 ⟨rfl,rfl⟩
              go_wp2_with fail
              go_ret2
              refine ⟨?_,Hk.out⟩
              rw [Hsyn.out Hdg.out]
              rfl
    · have q1:¬(k:Int)<(l.length:Int):=by omega
      go_wp2_with fail
      go_ret2
      refine ⟨?_,Hk.out⟩
      rw [<- Hq.out,List.drop_eq_nil_of_le (by omega)]
      rfl
end Go.Proofs.YthgbdoofchknhaaGreatDoor
end
section
namespace Go.Proofs.YthgbdoofchknhaaGreatDoor.Sm
open Go.RowKit
def tyT:TT:=[(1,⟨.func,1,8,[.raw .nilFunc]⟩),
 (2,⟨(.int .i64),1,8,[.i .i64 0]⟩),
 (3,⟨(.int .i64),1,8,[.i .i64 0]⟩),
 (4,⟨.bool,1,1,[.b false]⟩),
 (5,⟨(.int .u8),1,1,[.y 0]⟩),
 (6,⟨(.int .u8),1,1,[.y 0]⟩),
 (7,⟨(.strct [(2,0),(3,1),(4,2),(6,3)]),4,24,[.i .i64 0,.i .i64 0,.b false,.y 0]⟩),
 (8,⟨(.strct [(2,0),(3,1),(4,2),(6,3)]),4,24,[.i .i64 0,.i .i64 0,.b false,.y 0]⟩),
 (9,⟨.str,1,16,[.s []]⟩),
 (10,⟨.str,1,16,[.s []]⟩),
 (11,⟨.str,1,16,[.s []]⟩),
 (12,⟨(.int .u64),1,8,[.u 0]⟩),
 (13,⟨(.strct [(9,0),(12,1)]),2,24,[.s [],.u 0]⟩),
 (14,⟨(.strct [(9,0),(12,1)]),2,24,[.s [],.u 0]⟩),
 (15,⟨.ptr,1,8,[.raw (.pointer none)]⟩),
 (16,⟨.ptr,1,8,[.raw (.pointer none)]⟩),
 (17,⟨.ptr,1,8,[.raw (.pointer none)]⟩),
 (18,⟨(.strct [(17,0)]),1,8,[.raw (.pointer none)]⟩),
 (19,⟨(.strct [(17,0)]),1,8,[.raw (.pointer none)]⟩),
 (21,⟨(.int .i32),1,4,[.i .i32 0]⟩),
 (22,⟨(.int .u64),1,8,[.u 0]⟩),
 (23,⟨(.strct [(22,0),(22,1)]),2,16,[.u 0,.u 0]⟩),
 (24,⟨(.strct [(22,0),(22,1)]),2,16,[.u 0,.u 0]⟩),
 (25,⟨(.slice 128),1,24,[.raw (.slice none 0 0)]⟩),
 (26,⟨(.strct [(25,0)]),1,24,[.raw (.slice none 0 0)]⟩),
 (27,⟨(.strct [(25,0)]),1,24,[.raw (.slice none 0 0)]⟩),
 (28,⟨(.slice 96),1,24,[.raw (.slice none 0 0)]⟩),
 (29,⟨(.slice 98),1,24,[.raw (.slice none 0 0)]⟩),
 (30,⟨(.strct [(3,0),(28,1),(29,2)]),3,56,[.i .i64 0,.raw (.slice none 0 0),.raw (.slice none 0 0)]⟩),
 (31,⟨(.strct [(3,0),(28,1),(29,2)]),3,56,[.i .i64 0,.raw (.slice none 0 0),.raw (.slice none 0 0)]⟩),
 (32,⟨(.slice 100),1,24,[.raw (.slice none 0 0)]⟩),
 (33,⟨(.strct [(27,0),(31,1),(32,4)]),5,104,[.raw (.slice none 0 0),.i .i64 0,.raw (.slice none 0 0),.raw (.slice none 0 0),.raw (.slice none 0 0)]⟩),
 (34,⟨(.strct [(27,0),(31,1),(32,4)]),5,104,[.raw (.slice none 0 0),.i .i64 0,.raw (.slice none 0 0),.raw (.slice none 0 0),.raw (.slice none 0 0)]⟩),
 (35,⟨(.strct [(3,0),(3,1),(3,2),(24,3),(34,5)]),10,144,[.i .i64 0,.i .i64 0,.i .i64 0,.u 0,.u 0,.raw (.slice none 0 0),.i .i64 0,.raw (.slice none 0 0),.raw (.slice none 0 0),.raw (.slice none 0 0)]⟩),
 (36,⟨(.strct [(3,0),(3,1),(3,2),(24,3),(34,5)]),10,144,[.i .i64 0,.i .i64 0,.i .i64 0,.u 0,.u 0,.raw (.slice none 0 0),.i .i64 0,.raw (.slice none 0 0),.raw (.slice none 0 0),.raw (.slice none 0 0)]⟩),
 (37,⟨(.int .i64),1,8,[.i .i64 0]⟩),
 (39,⟨.func,1,8,[.raw .nilFunc]⟩),
 (41,⟨.func,1,8,[.raw .nilFunc]⟩),
 (42,⟨.func,1,8,[.raw .nilFunc]⟩),
 (43,⟨.func,1,8,[.raw .nilFunc]⟩),
 (45,⟨.func,1,8,[.raw .nilFunc]⟩),
 (46,⟨.func,1,8,[.raw .nilFunc]⟩),
 (47,⟨.func,1,8,[.raw .nilFunc]⟩),
 (48,⟨(.slice 36),1,24,[.raw (.slice none 0 0)]⟩),
 (50,⟨.func,1,8,[.raw .nilFunc]⟩),
 (51,⟨.func,1,8,[.raw .nilFunc]⟩),
 (52,⟨.func,1,8,[.raw .nilFunc]⟩),
 (53,⟨.func,1,8,[.raw .nilFunc]⟩),
 (54,⟨(.slice 9),1,24,[.raw (.slice none 0 0)]⟩),
 (56,⟨.func,1,8,[.raw .nilFunc]⟩),
 (57,⟨(.arr 2 9),2,32,[.s [],.s []]⟩),
 (59,⟨.map,1,8,[.raw (.map none)]⟩),
 (60,⟨.func,1,8,[.raw .nilFunc]⟩),
 (61,⟨.ptr,1,8,[.raw (.pointer none)]⟩),
 (62,⟨(.strct [(54,0)]),1,24,[.raw (.slice none 0 0)]⟩),
 (63,⟨(.strct [(54,0)]),1,24,[.raw (.slice none 0 0)]⟩),
 (64,⟨.func,1,8,[.raw .nilFunc]⟩),
 (65,⟨.func,1,8,[.raw .nilFunc]⟩),
 (66,⟨(.slice 5),1,24,[.raw (.slice none 0 0)]⟩),
 (68,⟨.func,1,8,[.raw .nilFunc]⟩),
 (69,⟨.func,1,8,[.raw .nilFunc]⟩),
 (70,⟨.func,1,8,[.raw .nilFunc]⟩),
 (71,⟨.func,1,8,[.raw .nilFunc]⟩),
 (72,⟨.func,1,8,[.raw .nilFunc]⟩),
 (73,⟨.func,1,8,[.raw .nilFunc]⟩),
 (75,⟨.func,1,8,[.raw .nilFunc]⟩),
 (76,⟨.ptr,1,8,[.raw (.pointer none)]⟩),
 (77,⟨(.strct [(76,0),(66,1)]),2,32,[.raw (.pointer none),.raw (.slice none 0 0)]⟩),
 (78,⟨(.strct [(76,0),(66,1)]),2,32,[.raw (.pointer none),.raw (.slice none 0 0)]⟩),
 (82,⟨.func,1,8,[.raw .nilFunc]⟩),
 (83,⟨.func,1,8,[.raw .nilFunc]⟩),
 (84,⟨.func,1,8,[.raw .nilFunc]⟩),
 (85,⟨.func,1,8,[.raw .nilFunc]⟩),
 (86,⟨.func,1,8,[.raw .nilFunc]⟩),
 (87,⟨.func,1,8,[.raw .nilFunc]⟩),
 (88,⟨.func,1,8,[.raw .nilFunc]⟩),
 (89,⟨.func,1,8,[.raw .nilFunc]⟩),
 (90,⟨.func,1,8,[.raw .nilFunc]⟩),
 (91,⟨.func,1,8,[.raw .nilFunc]⟩),
 (92,⟨.func,1,8,[.raw .nilFunc]⟩),
 (93,⟨.ptr,1,8,[.raw (.pointer none)]⟩),
 (94,⟨.func,1,8,[.raw .nilFunc]⟩),
 (95,⟨.func,1,8,[.raw .nilFunc]⟩),
 (96,⟨(.arr 2 3),2,16,[.i .i64 0,.i .i64 0]⟩),
 (97,⟨(.strct [(3,0),(3,1),(3,2)]),3,24,[.i .i64 0,.i .i64 0,.i .i64 0]⟩),
 (98,⟨(.strct [(3,0),(3,1),(3,2)]),3,24,[.i .i64 0,.i .i64 0,.i .i64 0]⟩),
 (99,⟨.func,1,8,[.raw .nilFunc]⟩),
 (100,⟨(.slice 139),1,24,[.raw (.slice none 0 0)]⟩),
 (101,⟨.ptr,1,8,[.raw (.pointer none)]⟩),
 (102,⟨.func,1,8,[.raw .nilFunc]⟩),
 (103,⟨.func,1,8,[.raw .nilFunc]⟩),
 (104,⟨(.int .u64),1,8,[.u 0]⟩),
 (105,⟨.func,1,8,[.raw .nilFunc]⟩),
 (106,⟨(.strct [(3,0),(3,1),(3,2),(3,3),(3,4)]),5,40,[.i .i64 0,.i .i64 0,.i .i64 0,.i .i64 0,.i .i64 0]⟩),
 (107,⟨(.strct [(3,0),(3,1),(3,2),(3,3),(3,4)]),5,40,[.i .i64 0,.i .i64 0,.i .i64 0,.i .i64 0,.i .i64 0]⟩),
 (108,⟨.func,1,8,[.raw .nilFunc]⟩),
 (109,⟨.func,1,8,[.raw .nilFunc]⟩),
 (110,⟨.func,1,8,[.raw .nilFunc]⟩),
 (111,⟨(.strct [(24,0),(24,2)]),4,32,[.u 0,.u 0,.u 0,.u 0]⟩),
 (112,⟨(.strct [(24,0),(24,2)]),4,32,[.u 0,.u 0,.u 0,.u 0]⟩),
 (113,⟨(.strct [(3,0),(3,1),(3,2),(112,3)]),7,56,[.i .i64 0,.i .i64 0,.i .i64 0,.u 0,.u 0,.u 0,.u 0]⟩),
 (114,⟨(.strct [(3,0),(3,1),(3,2),(112,3)]),7,56,[.i .i64 0,.i .i64 0,.i .i64 0,.u 0,.u 0,.u 0,.u 0]⟩),
 (115,⟨(.strct [(3,0),(112,1),(114,5)]),12,96,[.i .i64 0,.u 0,.u 0,.u 0,.u 0,.i .i64 0,.i .i64 0,.i .i64 0,.u 0,.u 0,.u 0,.u 0]⟩),
 (116,⟨(.strct [(3,0),(112,1),(114,5)]),12,96,[.i .i64 0,.u 0,.u 0,.u 0,.u 0,.i .i64 0,.i .i64 0,.i .i64 0,.u 0,.u 0,.u 0,.u 0]⟩),
 (118,⟨.func,1,8,[.raw .nilFunc]⟩),
 (120,⟨.func,1,8,[.raw .nilFunc]⟩),
 (121,⟨.func,1,8,[.raw .nilFunc]⟩),
 (122,⟨.ptr,1,8,[.raw (.pointer none)]⟩),
 (123,⟨.func,1,8,[.raw .nilFunc]⟩),
 (124,⟨(.strct [(122,0),(4,1)]),2,16,[.raw (.pointer none),.b false]⟩),
 (125,⟨(.strct [(122,0),(4,1)]),2,16,[.raw (.pointer none),.b false]⟩),
 (126,⟨.func,1,8,[.raw .nilFunc]⟩),
 (127,⟨.func,1,8,[.raw .nilFunc]⟩),
 (128,⟨(.slice 107),1,24,[.raw (.slice none 0 0)]⟩),
 (129,⟨.func,1,8,[.raw .nilFunc]⟩),
 (130,⟨.func,1,8,[.raw .nilFunc]⟩),
 (131,⟨.func,1,8,[.raw .nilFunc]⟩),
 (132,⟨.func,1,8,[.raw .nilFunc]⟩),
 (133,⟨.func,1,8,[.raw .nilFunc]⟩),
 (134,⟨.func,1,8,[.raw .nilFunc]⟩),
 (135,⟨.func,1,8,[.raw .nilFunc]⟩),
 (136,⟨.func,1,8,[.raw .nilFunc]⟩),
 (137,⟨.func,1,8,[.raw .nilFunc]⟩),
 (138,⟨.func,1,8,[.raw .nilFunc]⟩),
 (139,⟨(.slice 116),1,24,[.raw (.slice none 0 0)]⟩),
 (141,⟨.func,1,8,[.raw .nilFunc]⟩),
 (142,⟨.func,1,8,[.raw .nilFunc]⟩),
 (144,⟨.func,1,8,[.raw .nilFunc]⟩),
 (145,⟨.func,1,8,[.raw .nilFunc]⟩),
 (146,⟨.func,1,8,[.raw .nilFunc]⟩),
 (147,⟨.func,1,8,[.raw .nilFunc]⟩),
 (148,⟨.func,1,8,[.raw .nilFunc]⟩),
 (149,⟨.func,1,8,[.raw .nilFunc]⟩),
 (150,⟨.func,1,8,[.raw .nilFunc]⟩),
 (151,⟨.func,1,8,[.raw .nilFunc]⟩),
 (152,⟨.func,1,8,[.raw .nilFunc]⟩),
 (153,⟨.ptr,1,8,[.raw (.pointer none)]⟩),
 (154,⟨.func,1,8,[.raw .nilFunc]⟩),
 (155,⟨.func,1,8,[.raw .nilFunc]⟩),
 (156,⟨(.strct [(66,0)]),1,24,[.raw (.slice none 0 0)]⟩),
 (157,⟨(.strct [(66,0)]),1,24,[.raw (.slice none 0 0)]⟩),
 (158,⟨.func,1,8,[.raw .nilFunc]⟩),
 (159,⟨.func,1,8,[.raw .nilFunc]⟩),
 (160,⟨.func,1,8,[.raw .nilFunc]⟩),
 (161,⟨.func,1,8,[.raw .nilFunc]⟩),
 (162,⟨.func,1,8,[.raw .nilFunc]⟩),
 (163,⟨.func,1,8,[.raw .nilFunc]⟩),
 (164,⟨(.slice 3),1,24,[.raw (.slice none 0 0)]⟩),
 (165,⟨.func,1,8,[.raw .nilFunc]⟩),
 (166,⟨.func,1,8,[.raw .nilFunc]⟩),
 (167,⟨.func,1,8,[.raw .nilFunc]⟩),
 (169,⟨.func,1,8,[.raw .nilFunc]⟩),
 (170,⟨.func,1,8,[.raw .nilFunc]⟩),
 (171,⟨(.arr 24 5),24,24,[.y 0,.y 0,.y 0,.y 0,.y 0,.y 0,.y 0,.y 0,.y 0,.y 0,.y 0,.y 0,.y 0,.y 0,.y 0,.y 0,.y 0,.y 0,.y 0,.y 0,.y 0,.y 0,.y 0,.y 0]⟩),
 (172,⟨.func,1,8,[.raw .nilFunc]⟩),
 (173,⟨.func,1,8,[.raw .nilFunc]⟩),
 (175,⟨.func,1,8,[.raw .nilFunc]⟩),
 (176,⟨(.int .u32),1,4,[.i .u32 0]⟩),
 (178,⟨.func,1,8,[.raw .nilFunc]⟩),
 (180,⟨.func,1,8,[.raw .nilFunc]⟩),
 (181,⟨(.int .i64),1,8,[.i .i64 0]⟩),
 (183,⟨.func,1,8,[.raw .nilFunc]⟩),
 (184,⟨.ptr,1,8,[.raw (.pointer none)]⟩),
 (185,⟨.func,1,8,[.raw .nilFunc]⟩),
 (186,⟨.func,1,8,[.raw .nilFunc]⟩),
 (187,⟨.func,1,8,[.raw .nilFunc]⟩),
 (188,⟨.ptr,1,8,[.raw (.pointer none)]⟩),
 (189,⟨.func,1,8,[.raw .nilFunc]⟩),
 (190,⟨(.strct [(188,0),(4,1)]),2,16,[.raw (.pointer none),.b false]⟩),
 (191,⟨(.strct [(188,0),(4,1)]),2,16,[.raw (.pointer none),.b false]⟩),
 (192,⟨.func,1,8,[.raw .nilFunc]⟩),
 (193,⟨.func,1,8,[.raw .nilFunc]⟩),
 (194,⟨.func,1,8,[.raw .nilFunc]⟩),
 (195,⟨.func,1,8,[.raw .nilFunc]⟩),
 (196,⟨.func,1,8,[.raw .nilFunc]⟩),
 (197,⟨.ptr,1,8,[.raw (.pointer none)]⟩),
 (198,⟨.func,1,8,[.raw .nilFunc]⟩),
 (199,⟨.func,1,8,[.raw .nilFunc]⟩),
 (200,⟨.func,1,8,[.raw .nilFunc]⟩),
 (201,⟨.func,1,8,[.raw .nilFunc]⟩),
 (202,⟨.func,1,8,[.raw .nilFunc]⟩),
 (203,⟨.func,1,8,[.raw .nilFunc]⟩),
 (204,⟨.func,1,8,[.raw .nilFunc]⟩),
 (205,⟨.func,1,8,[.raw .nilFunc]⟩),
 (206,⟨.func,1,8,[.raw .nilFunc]⟩),
 (207,⟨.func,1,8,[.raw .nilFunc]⟩),
 (208,⟨.func,1,8,[.raw .nilFunc]⟩),
 (209,⟨(.arr 20 22),20,160,[.u 0,.u 0,.u 0,.u 0,.u 0,.u 0,.u 0,.u 0,.u 0,.u 0,.u 0,.u 0,.u 0,.u 0,.u 0,.u 0,.u 0,.u 0,.u 0,.u 0]⟩),
 (211,⟨.func,1,8,[.raw .nilFunc]⟩),
 (212,⟨.func,1,8,[.raw .nilFunc]⟩),
 (213,⟨(.strct [(9,0),(9,1),(80,2)]),3,48,[.s [],.s [],.raw .nilIface]⟩),
 (214,⟨(.strct [(9,0),(9,1),(80,2)]),3,48,[.s [],.s [],.raw .nilIface]⟩),
 (215,⟨.func,1,8,[.raw .nilFunc]⟩),
 (216,⟨(.strct [(66,0),(37,1)]),2,32,[.raw (.slice none 0 0),.i .i64 0]⟩),
 (217,⟨(.strct [(66,0),(37,1)]),2,32,[.raw (.slice none 0 0),.i .i64 0]⟩),
 (218,⟨.func,1,8,[.raw .nilFunc]⟩),
 (219,⟨.func,1,8,[.raw .nilFunc]⟩),
 (220,⟨(.slice 197),1,24,[.raw (.slice none 0 0)]⟩),
 (221,⟨.func,1,8,[.raw .nilFunc]⟩),
 (222,⟨.func,1,8,[.raw .nilFunc]⟩),
 (223,⟨.func,1,8,[.raw .nilFunc]⟩),
 (225,⟨(.strct [(5,0),(5,1)]),2,2,[.y 0,.y 0]⟩),
 (226,⟨(.strct [(5,0),(5,1)]),2,2,[.y 0,.y 0]⟩),
 (227,⟨(.arr 16 226),32,32,[.y 0,.y 0,.y 0,.y 0,.y 0,.y 0,.y 0,.y 0,.y 0,.y 0,.y 0,.y 0,.y 0,.y 0,.y 0,.y 0,.y 0,.y 0,.y 0,.y 0,.y 0,.y 0,.y 0,.y 0,.y 0,.y 0,.y 0,.y 0,.y 0,.y 0,.y 0,.y 0]⟩),
 (228,⟨.func,1,8,[.raw .nilFunc]⟩),
 (229,⟨.ptr,1,8,[.raw (.pointer none)]⟩),
 (230,⟨(.strct [(9,0)]),1,16,[.s []]⟩),
 (231,⟨(.strct [(9,0)]),1,16,[.s []]⟩),
 (232,⟨.func,1,8,[.raw .nilFunc]⟩),
 (233,⟨.func,1,8,[.raw .nilFunc]⟩),
 (234,⟨.func,1,8,[.raw .nilFunc]⟩),
 (235,⟨.func,1,8,[.raw .nilFunc]⟩),
 (236,⟨(.arr 32 5),32,32,[.y 0,.y 0,.y 0,.y 0,.y 0,.y 0,.y 0,.y 0,.y 0,.y 0,.y 0,.y 0,.y 0,.y 0,.y 0,.y 0,.y 0,.y 0,.y 0,.y 0,.y 0,.y 0,.y 0,.y 0,.y 0,.y 0,.y 0,.y 0,.y 0,.y 0,.y 0,.y 0]⟩),
 (238,⟨.func,1,8,[.raw .nilFunc]⟩),
 (239,⟨(.strct [(17,0),(17,1),(17,2),(9,3)]),4,40,[.raw (.pointer none),.raw (.pointer none),.raw (.pointer none),.s []]⟩),
 (240,⟨(.strct [(17,0),(17,1),(17,2),(9,3)]),4,40,[.raw (.pointer none),.raw (.pointer none),.raw (.pointer none),.s []]⟩),
 (241,⟨(.arr 0 16),0,0,[]⟩),
 (242,⟨(.strct [(241,0)]),0,0,[]⟩),
 (243,⟨(.strct [(241,0)]),0,0,[]⟩),
 (244,⟨(.int .u8),1,1,[.y 0]⟩),
 (245,⟨(.int .u8),1,1,[.y 0]⟩),
 (246,⟨.func,1,8,[.raw .nilFunc]⟩),
 (247,⟨(.int .i32),1,4,[.i .i32 0]⟩),
 (248,⟨(.int .i32),1,4,[.i .i32 0]⟩),
 (249,⟨(.strct [(12,0),(12,1),(176,2),(244,3),(5,4),(5,5),(245,6),(246,7),(101,8),(247,9),(248,10)]),11,48,[.u 0,.u 0,.i .u32 0,.y 0,.y 0,.y 0,.y 0,.raw .nilFunc,.raw (.pointer none),.i .i32 0,.i .i32 0]⟩),
 (250,⟨(.strct [(12,0),(12,1),(176,2),(244,3),(5,4),(5,5),(245,6),(246,7),(101,8),(247,9),(248,10)]),11,48,[.u 0,.u 0,.i .u32 0,.y 0,.y 0,.y 0,.y 0,.raw .nilFunc,.raw (.pointer none),.i .i32 0,.i .i32 0]⟩)]
theorem ty_ok:tabB Tryz.prog tyT=true:=by kernel_rfl
theorem mixed_ok:Tryz.prog.follows .mixedOrders=true:=by kernel_rfl
theorem wA {P:Program} {N:Nat} {Q:Exit->St->Prop} {s:St} {x y:Code} (h:AW P N x (thenA (AW P N y Q) Q) s):AW P N (.seq x y) Q s:=AW.seq h
theorem wB {P:Program} {N:Nat} {Q:Exit->St->Prop} {s:St} (h:Q .normal s):AW P N .skip Q s:=AW.skip h
theorem wC {P:Program} {N:Nat} {Q:Exit->St->Prop} {s:St} {id:Nat} {c:Code} (h:AW P N c (inBlkA id Q) s):AW P N (.block id c) Q s:=AW.block h
theorem wD {P:Program} {N:Nat} {ops:Array Oper} {rest:List Oper} {s:St} {K:St->List Eff->Prop} (h:RG P N ops rest s K):RG P N ops rest s K:=h
theorem wE {P:Program} {N:Nat} {ops:Array Oper} {s:St} {K:St->List Eff->Prop} (h:K s []):RG P N ops [] s K:=RG.nil h
theorem wF {P:Program} {N id:Nat} {ops:Array Oper} {Q:Exit->St->Prop} {s:St} (h:RG P N ops ops.toList s fun s' _=>Q .normal s'):AW P N (.region id ops false) Q s:=AW.text h
theorem wG {N id:Nat} {ops:Array Oper} {Q:Exit->St->Prop} {s:St} (h:RG Tryz.prog N ops ops.toList s fun s' Es=>orderOk ops (ops.toList.zip Es)=true/\Q .normal s'):AW Tryz.prog N (.region id ops true) Q s:=AW.draws mixed_ok h
theorem wH {N:Nat} {ops:Array Oper} {rest:List Oper} {s:St} {K:St->List Eff->Prop} {r:List Oper} {s':St} {Es:List Eff} (h:runF tyT 0 N ops 400 rest s []=(r,s',Es)) (hr:RG Tryz.prog N ops r s' (fun s'' Fs=>K s'' (Es.reverseAux Fs))):RG Tryz.prog N ops rest s K:=RG.runG ty_ok 0 400 h hr
theorem zI {N id : Nat} {ops : Array Oper} {Q : Exit -> St -> Prop} {s : St} {r : List Oper} {s' : St} {Es : List Eff} (h : runF tyT 0 N ops 400 ops.toList s [] = (r, s', Es)) (hr : RG Tryz.prog N ops r s' (fun s'' Fs => Q .normal s'')) : AW Tryz.prog N (.region id ops false) Q s := wF (wH h hr)
theorem zJ {N id : Nat} {ops : Array Oper} {Q : Exit -> St -> Prop} {s : St} {r : List Oper} {s' : St} {Es : List Eff} (h : runF tyT 0 N ops 400 ops.toList s [] = (r, s', Es)) (hr : RG Tryz.prog N ops r s' (fun s'' Fs => orderOk ops (ops.toList.zip (Es.reverseAux Fs)) = true /\ Q .normal s'')) : AW Tryz.prog N (.region id ops true) Q s := wG (wH h hr)
theorem zM {ops : Array Oper} {L : List (Oper × Eff)} {q : Prop} (h1 : orderOk ops L = true) (h2 : q) : orderOk ops L = true /\ q := ⟨h1, h2⟩
theorem jA {p q:Prop} (h:q) (t:q -> p:=by intro h;(repeat first|apply wA|apply wB|apply wC|apply wE|(apply zM;·kernel_rfl)|refine zI rfl ?_|refine zJ rfl ?_);exact h):p:=t h
theorem jB {p q:Prop} (h:q) (t:q -> p:=by intro h;(repeat first|apply wA|apply wB|apply wC|apply wE|(apply zM;·kernel_rfl));exact h):p:=t h
theorem jD {p:Prop} (t:p:=by repeat' (first|exact trivial|apply And.intro|exact dT ‹_›|exact dF ‹_›|exact dN ‹_›|exact dM ‹_›|exact dI ‹_›)):p:=t
theorem jW {p:Prop} (t:p:=by repeat(first|exact trivial|refine ⟨rI rfl rfl,?_⟩|refine ⟨rO rfl rfl rfl,?_⟩|refine ⟨rR rfl rfl rfl,?_⟩|refine ⟨bR rfl rfl,?_⟩|refine ⟨bS rfl rfl rfl,?_⟩)):p:=t
theorem jV {p:Prop} (t:p:=by repeat(first|exact trivial|refine ⟨rI rfl rfl,?_⟩|refine ⟨rI (i64_next (by assumption) (by first|assumption|decide)) rfl,?_⟩|refine ⟨rO rfl rfl rfl,?_⟩|refine ⟨rR rfl rfl rfl,?_⟩|refine ⟨bR rfl rfl,?_⟩|refine ⟨bS rfl rfl rfl,?_⟩)):p:=t
theorem jX {p:Prop} (t:p:=by first | omega | (simp only [IntKind.wrap_i64,Int.ofNat_eq_natCast] <;> omega) | rfl):p:=t
theorem jE {p q:Prop} (h:q) (t:q -> p:=by intro h;refine AW.exit ?_;refine Eq.mpr (if_pos rfl) ?_;exact h):p:=t h
theorem tk {t:Nat} {ti:TI} (ht:tget tyT t=some ti):TiOk Tryz.prog t ti:=tab_ok ty_ok ht
theorem rI {σ σ':Sto} {x y:AV} (e:x=y) (h:y.pu1=true):Rn σ σ' x y:=Rn.is e h
theorem rO {σ σ':Sto} {x:AV} {id ep ep' off:Nat} {bd bd':Body} (e:x = .own id ep off) (h:σ id=⟨ep,some bd⟩) (h':σ' id=⟨ep',some bd'⟩):Rn σ σ' x (.own id ep' off):=Rn.ownIs e h h'
theorem rR {σ σ':Sto} {x:AV} {id ep ep' off n t m:Nat} {els:List (List AV)} (e:x = .row id ep off n) (h:σ id=⟨ep,some (.row t m els)⟩) (h':σ' id=⟨ep',some (.row t m els)⟩):Rn σ σ' x (.row id ep' off n):=Rn.rowIs e h h'
theorem bR {s:St} {σ':Sto} {id:Nat} {t:TypeId} {m ep ep':Nat} {els els':List (List AV)} (h:s.σ id=⟨ep,some (.row t m els)⟩) (he:els=els'):WkB1 s σ' id ⟨ep',some (.row t m els')⟩:=.row h he
theorem bS {s:St} {σ':Sto} {id ep ep':Nat} {t:TypeId} {cs:List AV} (h:s.σ id=⟨ep,some (.box t cs)⟩) (h1:cs.all AV.one=true) (hp:cs.all AV.pu1=true):WkB1 s σ' id ⟨ep',some (.box t cs)⟩:=.same h h1 hp
end Go.Proofs.YthgbdoofchknhaaGreatDoor.Sm
end
section
namespace Go.Proofs.YthgbdoofchknhaaGreatDoor
open Go.RowKit
def secBlock (n:Nat):Code->Code
 | .block i b=>match i == n with | true=>.block i b | false=>secBlock n b
 | .seq a b=>match secBlock n a with | .skip=>secBlock n b | c=>c
 | .cond _ a b=>match secBlock n a with | .skip=>secBlock n b | c=>c
 | .loop b=>secBlock n b
 | .scope b=>secBlock n b
 | _=>.skip
def secRegion (n:Nat):Code->Code
 | .region i o d=>match i == n with | true=>.region i o d | false=>.skip
 | .seq a b=>match secRegion n a with | .skip=>secRegion n b | c=>c
 | .cond _ a b=>match secRegion n a with | .skip=>secRegion n b | c=>c
 | .block _ b=>secRegion n b
 | .loop b=>secRegion n b
 | .scope b=>secRegion n b
 | _=>.skip
end Go.Proofs.YthgbdoofchknhaaGreatDoor
end
section
namespace Go.Proofs.YthgbdoofchknhaaGreatDoor
open Go.RowKit
def WriterAt (w:World) (X:Nat->Prop) (l:List UInt8) (p:Nat):Prop :=
 X p/\∃sv,w.heap[p]?=some (.cells #[sv] 157 (0,0))/\OwnAt u8R 5 w No (fun g=>X g/\g≠p) l sv
theorem WriterAt.kp {w w':World} {X S:Nat->Prop} {l:List UInt8} {p:Nat} (h:WriterAt w X l p) (hk:Kp S w w') (hd:∀b,X b->¬S b):WriterAt w' X l p:=by
 obtain ⟨hp,sv,hh,ho⟩:=h
 exact ⟨hp,sv,hk.heap hh (hd p hp),ho.kp hk (fun _ h=>h.elim) (fun b hb=>hd b hb.1)⟩
theorem WriterAt.mono {w:World} {X X':Nat->Prop} {l:List UInt8} {p:Nat} (h:WriterAt w X l p) (hd:∀b,X b->X' b):WriterAt w X' l p:=by
 obtain ⟨hp,sv,hh,ho⟩:=h
 exact ⟨hd p hp,sv,hh,ho.mono fun b _ hb=>⟨hd b hb.1,hb.2⟩⟩
theorem pack_New (w:World):Calls Tryz.prog 61 #[] w fun e w'=>e = .returned (.pointer (some ⟨w.heap.size,0,none⟩))/\w.alloc (.cells #[.slice none 0 0] 157)=w':=by
 go_enter Tryz.func61,Tryz.ntmps61
 go_wp2
 go_ret
 exact ⟨rfl,rfl⟩
theorem WriterAt.new (w:World):WriterAt (w.alloc (.cells #[.slice none 0 0] 157)) (From w.heap.size) [] w.heap.size :=
 ⟨Nat.le_refl _,_,heap_alloc_new w _,OwnAt.nil _ _ _ _ _⟩
theorem own_store {w w1:World} {X:Nat->Prop} {p:Nat} {l:List UInt8} {v u:Value} (h:OwnAt u8R 5 w1 No (Or (fun g=>X g/\g≠p) w.heap.size) l v) (hlt:p<w.heap.size) :
  OwnAt u8R 5 (w1.setCell ⟨p,0,none⟩ u) No (fun g=>Or X w.heap.size g/\g≠p) l v:=by
 refine (h.mono (O':=fun g=>Or X w.heap.size g/\g≠p) fun b hb ho=>?_).kp ((Kp.refl (fun b=>b=p) w1).setCell (p:=⟨p,0,none⟩) (.inl rfl) _) (fun _ h=>h.elim) (fun b hb=>(hb:_/\_).2)
 rcases ho with ho | ho
 ·exact ⟨.inl ho.1,ho.2⟩
 ·exact ⟨.inr ho,fun e=>by omega⟩
set_option maxHeartbeats 400000 in
theorem Writer_Wide (w:World) (X:Nat->Prop) (l:List UInt8) (p:Nat) (n:UInt64) (h:WriterAt w X l p) (hb:l.length+8<=140737488355328) :
  Calls Tryz.prog 134 #[.pointer (some ⟨p,0,none⟩),.int .u64 n.toNat] w fun e w'=>e = .returned (.pointer (some ⟨p,0,none⟩))/\WriterAt w' (Or X w.heap.size) (l++putF n 8) p/\Kp X w w':=by
 obtain ⟨hp,sv,hh,ho⟩:=h
 have hc:w.cell? ⟨p,0,none⟩=some sv:=cell_of_row w p 0 _ _ _ hh
 have hlt:=(Array.getElem?_eq_some_iff.1 hh).1
 have Ho:=Lib.hid ho
 have Hh:=Lib.hid hh
 have Hb:=Lib.hid hb
 have Hp:=Lib.hid hp
 clear ho hh hb hp
 go_enter Tryz.func134,Tryz.ntmps134
 go_wp2_with fail
 refine (pack_put _ _ _ _ n 8 (by omega) Ho.out Hb.out).mono ?_
 rintro e w1 ⟨v1,rfl,ho1,hk1⟩
 have hh1:=hk1.heap Hh.out (fun h=>h.2 rfl)
 have hc1:w1.cell? ⟨p,0,none⟩=some sv:=cell_of_row w1 p 0 _ _ _ hh1
 have hf1:w1.frozen? ⟨p,0,none⟩=false:=by simp [World.frozen?,hh1]
 obtain ⟨A,m,c,rfl,_,_,_⟩:=ho1.form'
 have Ho1:=Lib.hid ho1
 have Hh1:=Lib.hid hh1
 have Hk1:=Lib.hid hk1
 clear ho1 hh1 hk1
 go_wp2
 go_ret
 exact ⟨rfl,⟨.inl Hp.out,_,one_setCell Hh1.out,own_store Ho1.out hlt⟩,(Hk1.out.mono fun b _ hb=>hb.1).setCell (p:=⟨p,0,none⟩) (.inl Hp.out) _⟩
theorem u64_ofInt (n:Int):IntKind.u64.wrap n=((UInt64.ofInt n).toNat:Int):=by
 rw [IntKind.wrap_u64]
 have h:(UInt64.ofInt n).toNat=(n % 18446744073709551616).toNat:=by
  have:=Int.emod_lt_of_pos n (show (0:Int)<18446744073709551616 by omega)
  have:=Int.emod_nonneg n (show (18446744073709551616:Int)≠0 by omega)
  simp [UInt64.ofInt]
  omega
 rw [h]
 have:=Int.emod_nonneg n (show (18446744073709551616:Int)≠0 by omega)
 omega
set_option maxHeartbeats 400000 in
theorem Writer_Num (w:World) (X:Nat->Prop) (l:List UInt8) (p:Nat) (n:Int) (h:WriterAt w X l p) (hb:l.length+8<=140737488355328) :
  Calls Tryz.prog 96 #[.pointer (some ⟨p,0,none⟩),.int .i64 n] w fun e w'=>e = .returned (.pointer (some ⟨p,0,none⟩))/\WriterAt w' (Or X w.heap.size) (l++putF (UInt64.ofInt n) 8) p/\Kp X w w':=by
 go_enter Tryz.func96,Tryz.ntmps96
 have H:=Lib.hid h
 have Hb:=Lib.hid hb
 clear h hb
 go_wp2_with fail
 rw [u64_ofInt]
 refine (Writer_Wide _ _ _ _ _ H.out Hb.out).mono ?_
 rintro e w1 ⟨rfl,h1,h2⟩
 have H1:=Lib.hid h1
 have H2:=Lib.hid h2
 clear h1 h2
 go_wp2
 go_ret
 exact ⟨rfl,H1.out,H2.out⟩
def fitS (s:ByteArray):ByteArray:=if 16777216<s.size then ⟨#[]⟩ else s
def textF (s:ByteArray):List UInt8:=putF (UInt64.ofNat (fitS s).size) 4++(fitS s).data.toList
theorem Tryz.u8zero:(Tryz.prog.info? 5).bind (·.zero)=some (.int .u8 0):=by kernel_rfl
end Go.Proofs.YthgbdoofchknhaaGreatDoor
end
section
namespace Go.Proofs.YthgbdoofchknhaaGreatDoor
open Go.RowKit
theorem OwnAt.empty {α : Type} (R : Rep α) (e : TypeId) (w : World) (E O : Nat -> Prop) (hE : ∀ b, E b -> b < w.heap.size) (hO : ∀ b, w.heap.size <= b -> O b) :
    OwnAt R e (w.alloc (.cells #[] e)) E O [] (.slice (some ⟨w.heap.size,0,none⟩) 0 0) :=
  ⟨[],World.ownsRow_made w #[] 0 (Nat.zero_le _) (Nat.zero_le _) (by simp),rfl,fun g hg=>by
    have e:w.heap.size=g:=by simpa [Value.ownBlock] using hg
    subst e
    exact ⟨hO _ (Nat.le_refl _),fun h=>absurd (hE _ h) (by omega)⟩⟩
set_option maxHeartbeats 400000 in
theorem bytes_Clone (w:World) (F:Nat->Prop) (l:List UInt8) (v:Value) (h:SliceAt u8R w F l v) (hb:l.length<=140737488355328) :
  Calls Tryz.prog 94 #[v] w fun e w'=>∃v',e = .returned v'/\OwnAt u8R 5 w' No (From w.heap.size) l v'/\Kp No w w':=by
 obtain ⟨A,n,c,rfl,hn,hc1,hc2⟩:=h.form'
 have H:=Lib.hid h
 have Hb:=Lib.hid hb
 clear h hb
 have hnil:=fun (A:Option Addr) (n c:Nat) (W:World)=>Lib.run_eql_slice_nil (P:=Tryz.prog) W _ _ A n c 0 0 Tryz.underlying66
 rcases A with _ | A
 ·go_enter Tryz.func94,Tryz.ntmps94
  go_wp2
  go_ret
  refine ⟨_,rfl,?_,Kp.refl _ _⟩
  obtain ⟨A',c',e,_,_,h3⟩:=H.out
  injection e with e1 e2 e3
  have hl:l=[]:=by
   refine List.eq_nil_of_length_eq_zero (Classical.byContradiction fun hne=>?_)
   obtain ⟨b,off,e,_⟩:=h3 (by omega)
   rw [<- e1] at e
   cases e
  subst hl
  exact OwnAt.nil _ _ _ _ _
 ·go_enter Tryz.func94,Tryz.ntmps94
  have Hs:=Lib.hid (H.out.kp ((Kp.refl No w).alloc (.cells #[] 5)) (fun _ _=>id)).source
  go_wp2_with (at_builtin;(refine wpList_append_rep (R:=u8R) (v:=.slice (some ⟨w.heap.size,0,none⟩) 0 0) (E:=No) (O:=From w.heap.size) (bytes:=1) rfl _ _ rfl Tryz.el34 (by decide) rfl (OwnAt.empty _ _ _ _ _ ?_ ?_) _ _ _ l rfl hn.out ?_ ?_ ?_ ?_ ?_ ?_);(· exact fun b hb=>hb.elim);(· exact fun b hb=>hb);(· obtain ⟨news,h1,h2⟩:=Hs.out;exact ⟨news,h1.mono fun x c h=>h,h2⟩);(· exact fun b hb=>hb.elim);(· exact fun b hb=>(by simp at hb;unfold From;omega));(· have:=Hb.out;simp;omega);(· have:=Hb.out;simp;omega);(intro v' w2 ho2 hk2 hat2;obtain ⟨A2,m,c,rfl,_,_,_⟩:=ho2.form';have Ho2:=Lib.hid ho2;have Hk2:=Lib.hid hk2;clear ho2 hk2 hat2))
  go_ret
  exact ⟨_,rfl,Ho2.out,((Kp.refl No w).alloc _).trans2 Hk2.out fun g hg h=>by injection h with h;simp only at h;omega⟩
set_option maxHeartbeats 400000 in
theorem Clip_bytes (w:World) (F:Nat->Prop) (l:List UInt8) (v:Value) (h:SliceAt u8R w F l v) :
  Calls Tryz.prog 92 #[v] w fun e w'=>∃v',e = .returned v'/\SliceAt u8R w F l v'/\w=w':=by
 obtain ⟨A,n,c,rfl,hn,hc1,hc2⟩:=h.form'
 have H:=Lib.hid h
 clear h
 go_enter Tryz.func92,Tryz.ntmps92
 go_wp2
 go_ret
 refine ⟨_,rfl,?_,rfl⟩
 obtain ⟨A',c',e,h1,h2,h3⟩:=H.out
 injection e with e1 e2 e3
 show SliceAt u8R w F l (.slice A n n)
 exact ⟨A,n,by rw [hn.out],by omega,by unfold maxLen;omega,by rw [e1];exact h3⟩
set_option maxHeartbeats 400000 in
theorem Writer_Bytes (w:World) (X:Nat->Prop) (l:List UInt8) (p:Nat) (h:WriterAt w X l p) (hb:l.length+20000000<=140737488355328) :
  Calls Tryz.prog 62 #[.pointer (some ⟨p,0,none⟩)] w fun e w'=>∃v,e = .returned v/\SliceAt u8R w' (From w.heap.size) (l++putF (sumF l) 8) v/\Kp No w w':=by
 obtain ⟨hp,sv,hh,ho⟩:=h
 have hc:w.cell? ⟨p,0,none⟩=some sv:=cell_of_row w p 0 _ _ _ hh
 have hlt:=(Array.getElem?_eq_some_iff.1 hh).1
 have Ho:=Lib.hid ho
 have Hh:=Lib.hid hh
 have Hb:=Lib.hid hb
 clear ho hh hb
 go_enter Tryz.func62,Tryz.ntmps62
 go_wp2_with fail
 have hS0:=And.intro hc (Lib.hid (Kp.refl No w).drew)
 go_region_held3 (fun w'=>w'.cell? ⟨p,0,none⟩=some sv/\Hid (Kp No w w')) (first | assumption | (refine ⟨?_,?_⟩ <;> assumption))
  (first
   | (go_at_call 94;go_split_ands;refine (bytes_Clone _ (fun b=>No b\/(X b/\b≠p)) l sv ?_ ?_).mono ?_;(exact (Ho.out.slice.kp (Hid.out (by assumption)) (fun _ _=>id)));(have:=Hb.out;omega);rintro e w' ⟨v',rfl,hoC,hkC⟩;have hS1:=And.intro (hkC.cell (p:=⟨p,0,none⟩) (u:=sv) (by assumption) (not_no _)) (Lib.hid ((Hid.out (p:=Kp No w _) (by assumption)).trans hkC)))
   | (go_at_call 95;go_split_ands;refine (pack_Sum _ (fun b=>No b\/(X b/\b≠p)) sv l ?_).mono ?_;(exact (Ho.out.slice.kp (Hid.out (by assumption)) (fun _ _=>id)));rintro e w' ⟨rfl,rfl⟩)
   | (go_at_call 93;go_split_ands;refine (pack_put _ _ _ _ (sumF l) 8 ?_ hoC ?_).mono ?_;omega;(have:=Hb.out;omega);rintro e w' ⟨v2,rfl,hoP,hkP⟩;go_loud (have hS2:=And.intro (hkP.cell (p:=⟨p,0,none⟩) (u:=sv) (by assumption) (by unfold From;simp;omega)) (Lib.hid ((Hid.out (p:=Kp No w _) (by assumption)).trans2 hkP (fun g hg h=>absurd h (by unfold From;simp;omega))))))
   | (go_at_call 92;go_split_ands;refine (Clip_bytes _ _ _ _ hoP.slice).mono ?_;rintro e w' ⟨v3,rfl,hs3,rfl⟩))
 go_wp2
 go_ret
 exact ⟨v3,rfl,hs3.mono fun b _ hb=>hb.elim (fun h=>h.elim) (fun h=>h.elim (fun h=>h) (fun h=>Nat.le_trans hkC.size h)),Hid.out (by assumption)⟩
end Go.Proofs.YthgbdoofchknhaaGreatDoor
end
section
namespace Go.Proofs.YthgbdoofchknhaaGreatDoor
open Go.RowKit
structure Rd where
 rest:List UInt8
 e:Int
def Rd.take (r:Rd) (n:Nat):List UInt8 × Rd :=
 if r.e=0 then (if r.rest.length<n then ([],⟨[],3⟩) else (r.rest.take n,⟨r.rest.drop n,0⟩)) else ([],r)
def ReaderAt (w:World) (X:Nat->Prop) (r:Rd) (p:Nat):Prop :=
 X p/\∃sv,w.heap[p]?=some (.cells #[sv,.int .i64 r.e] 217 (0,0))/\SliceAt u8R w (fun g=>X g/\g≠p) r.rest sv
theorem ReaderAt.kp {w w':World} {X S:Nat->Prop} {r:Rd} {p:Nat} (h:ReaderAt w X r p) (hk:Kp S w w') (hd:∀b,X b->¬S b):ReaderAt w' X r p:=by
 obtain ⟨hp,sv,hh,ho⟩:=h
 exact ⟨hp,sv,hk.heap hh (hd p hp),ho.kp hk (fun b hb=>hd b hb.1)⟩
theorem ReaderAt.mono {w:World} {X X':Nat->Prop} {r:Rd} {p:Nat} (h:ReaderAt w X r p) (hd:∀b,X b->X' b):ReaderAt w X' r p:=by
 obtain ⟨hp,sv,hh,ho⟩:=h
 exact ⟨hd p hp,sv,hh,ho.mono fun b _ hb=>⟨hd b hb.1,hb.2⟩⟩
set_option maxHeartbeats 400000 in
theorem Reader_take (w : World) (X : Nat -> Prop) (r : Rd) (p : Nat) (n : Nat) (h : ReaderAt w X r p) (hn : n <= 9223372036854775807) :
    Calls Tryz.prog 161 #[.pointer (some ⟨p,0,none⟩),.int .i64 n] w fun e w'=>∃v,e = .returned v/\SliceAt u8R w' (fun g=>X g/\g≠p) (r.take n).1 v/\ReaderAt w' X (r.take n).2 p/\Kp (fun b=>b=p) w w':=by
  obtain ⟨hp,sv,hh,ho⟩:=h
  obtain ⟨A,m,c,rfl,hm,hc1,hc2⟩:=ho.form'
  have h0:w.cell? ⟨p,0,none⟩=some (.slice A m c):=cell_of_row w p 0 _ _ _ hh
  have h1:w.cell? ⟨p,1,none⟩=some (.int .i64 r.e):=cell_of_row w p 1 _ _ _ hh
  have hf0:w.frozen? ⟨p,0,none⟩=false:=by simp [World.frozen?,hh]
  have hf1:w.frozen? ⟨p,1,none⟩=false:=by simp [World.frozen?,hh]
  have Ho:=Lib.hid ho
  have Hh:=Lib.hid hh
  have Hp:=Lib.hid hp
  clear ho hh hp
  by_cases he:r.e=0
  · have he1:(r.e == 0)=true:=by simpa using he
    have he2:(r.e != 0)=false:=by simpa using he
    have He:=Lib.hid he
    clear he
    by_cases hl:m<n
    · have ht : Hid (r.take n = ([], ⟨[], 3⟩)) := by
        show r.take n=_
        rw [Rd.take,if_pos He.out,if_pos (by rw [<- hm.out];exact hl)]
      go_enter Tryz.func161,Tryz.ntmps161
      go_wp2
      go_ret
      rw [ht.out]
      refine ⟨_,rfl,SliceAt.nil _ _ _,⟨Hp.out,_,?_,SliceAt.nil _ _ _⟩,?_⟩
      · exact heap_setCell_same _ _ _ _ _ _ (heap_setCell_same _ _ _ _ _ _ Hh.out)
      · exact (Kp.set1 _ _ _ _).trans (Kp.set1 _ _ _ _)
    · have ht : Hid (r.take n = (r.rest.take n, ⟨r.rest.drop n, r.e⟩)) := by
        show r.take n=_
        rw [Rd.take,if_pos He.out,if_neg (by rw [<- hm.out];exact hl),He.out]
      go_enter Tryz.func161,Tryz.ntmps161
      go_wp2
      · obtain rfl:c=n:=by assumption
        go_ret
        rw [ht.out]
        refine ⟨_,rfl,(Ho.out.take (k:=c) (by omega)).kp (Kp.set1 w p 0 _) (fun b hb=>hb.2),⟨Hp.out,_,heap_setCell_same _ _ _ _ _ _ Hh.out,?_⟩,Kp.set1 _ _ _ _⟩
        rw [List.drop_of_length_le (by rw [<- hm.out];omega)]
        exact SliceAt.zero _ _ _ _ (by omega) (by omega)
      · go_ret
        rw [ht.out]
        exact ⟨_,rfl,(Ho.out.take (k:=n) (by omega)).kp (Kp.set1 w p 0 _) (fun b hb=>hb.2),⟨Hp.out,_,heap_setCell_same _ _ _ _ _ _ Hh.out,(Ho.out.drop (k:=n) (by omega) (by simp [u8R,Rep.plain])).kp (Kp.set1 w p 0 _) (fun b hb=>hb.2)⟩,Kp.set1 _ _ _ _⟩
  · have he1:(r.e == 0)=false:=by simpa using he
    have he2:(r.e != 0)=true:=by simpa using he
    have ht:Hid (r.take n=([],r)):=by
      show r.take n=_
      rw [Rd.take,if_neg he]
    clear he
    go_enter Tryz.func161,Tryz.ntmps161
    go_wp2
    go_ret
    rw [ht.out]
    exact ⟨_,rfl,SliceAt.nil _ _ _,⟨Hp.out,_,Hh.out,Ho.out⟩,Kp.refl _ _⟩
def Rd.wide (r:Rd):UInt64:=getF (r.take 8).1
def i64of (n:UInt64):Int:=wrap64 n.toNat
set_option maxHeartbeats 400000 in
theorem Reader_Wide (w:World) (X:Nat->Prop) (r:Rd) (p:Nat) (h:ReaderAt w X r p) :
  Calls Tryz.prog 157 #[.pointer (some ⟨p,0,none⟩)] w fun e w'=>e = .returned (.int .u64 r.wide.toNat)/\ReaderAt w' X (r.take 8).2 p/\Kp (fun b=>b=p) w w':=by
 have H:=Lib.hid h
 clear h
 go_enter Tryz.func157,Tryz.ntmps157
 go_wp2_with fail
 refine (Reader_take _ _ _ _ 8 H.out (by omega)).mono ?_
 rintro e w1 ⟨v1,rfl,hs1,hr1,hk1⟩
 have Hr1:=Lib.hid hr1
 have Hk1:=Lib.hid hk1
 clear hr1 hk1
 go_wp2_with fail
 refine (pack_get _ _ v1 _ hs1).mono ?_
 rintro e w1 ⟨rfl,rfl⟩
 clear hs1
 go_wp2
 go_ret
 exact ⟨rfl,Hr1.out,Hk1.out⟩
set_option maxHeartbeats 400000 in
theorem Reader_Num (w:World) (X:Nat->Prop) (r:Rd) (p:Nat) (h:ReaderAt w X r p) :
  Calls Tryz.prog 148 #[.pointer (some ⟨p,0,none⟩)] w fun e w'=>e = .returned (.int .i64 (i64of r.wide))/\ReaderAt w' X (r.take 8).2 p/\Kp (fun b=>b=p) w w':=by
 have H:=Lib.hid h
 clear h
 go_enter Tryz.func148,Tryz.ntmps148
 go_wp2_with fail
 refine (Reader_Wide _ _ _ _ H.out).mono ?_
 rintro e w1 ⟨rfl,hr1,hk1⟩
 have Hr1:=Lib.hid hr1
 have Hk1:=Lib.hid hk1
 clear hr1 hk1
 go_wp2
 go_ret
 exact ⟨rfl,Hr1.out,Hk1.out⟩
def Rd.end_ (r:Rd):Int:=if r.e=0 then (if 0<r.rest.length then 2 else 0) else r.e
def Rd.left (r:Rd):Nat:=if r.e=0 then r.rest.length else 0
set_option maxHeartbeats 400000 in
theorem Reader_Left (w : World) (X : Nat -> Prop) (r : Rd) (p : Nat) (h : ReaderAt w X r p) :
    Calls Tryz.prog 149 #[.pointer (some ⟨p,0,none⟩)] w fun e w'=>e = .returned (.int .i64 r.left)/\w=w':=by
  obtain ⟨hp,sv,hh,ho⟩:=h
  obtain ⟨A,m,c,rfl,hm,hc1,hc2⟩:=ho.form'
  have h0:w.cell? ⟨p,0,none⟩=some (.slice A m c):=cell_of_row w p 0 _ _ _ hh
  have h1:w.cell? ⟨p,1,none⟩=some (.int .i64 r.e):=cell_of_row w p 1 _ _ _ hh
  clear ho hh
  by_cases he:r.e=0
  · have he1:(r.e == 0)=true:=by simpa using he
    have he2:(r.e != 0)=false:=by simpa using he
    have ht:Hid (r.left=m):=Lib.hid (by rw [Rd.left,if_pos he,hm.out])
    clear he
    go_enter Tryz.func149,Tryz.ntmps149
    go_wp2
    go_ret
    exact ⟨by rw [ht.out];rfl,rfl⟩
  · have he1:(r.e == 0)=false:=by simpa using he
    have he2:(r.e != 0)=true:=by simpa using he
    have ht:Hid (r.left=0):=Lib.hid (by rw [Rd.left,if_neg he])
    clear he
    go_enter Tryz.func149,Tryz.ntmps149
    go_wp2
    go_ret
    exact ⟨by rw [ht.out];rfl,rfl⟩
set_option maxHeartbeats 400000 in
theorem Reader_End (w : World) (X : Nat -> Prop) (r : Rd) (p : Nat) (h : ReaderAt w X r p) :
    Calls Tryz.prog 123 #[.pointer (some ⟨p,0,none⟩)] w fun e w'=>e = .returned (.int .i64 r.end_)/\w=w':=by
  obtain ⟨hp,sv,hh,ho⟩:=h
  obtain ⟨A,m,c,rfl,hm,hc1,hc2⟩:=ho.form'
  have h0:w.cell? ⟨p,0,none⟩=some (.slice A m c):=cell_of_row w p 0 _ _ _ hh
  have h1:w.cell? ⟨p,1,none⟩=some (.int .i64 r.e):=cell_of_row w p 1 _ _ _ hh
  clear ho hh
  by_cases he:r.e=0
  · have he1:(r.e == 0)=true:=by simpa using he
    have he2:(r.e != 0)=false:=by simpa using he
    have he3:(true == (r.e != 0))=false:=by rw [he2];rfl
    by_cases hl:0<m
    · have ht:Hid (r.end_=2):=Lib.hid (by rw [Rd.end_,if_pos he,if_pos (by rw [<- hm.out];exact hl)])
      have hl1:(true == decide (0<(m:Int)))=true:=by simp;omega
      clear he
      go_enter Tryz.func123,Tryz.ntmps123
      go_wp2
      all_goals (go_ret;exact ⟨by rw [ht.out];rfl,rfl⟩)
    · have ht:Hid (r.end_=0):=Lib.hid (by rw [Rd.end_,if_pos he,if_neg (by rw [<- hm.out];exact hl)])
      clear he
      go_enter Tryz.func123,Tryz.ntmps123
      go_wp2
      all_goals (go_ret;exact ⟨by rw [ht.out];rfl,rfl⟩)
  · have he1:(r.e == 0)=false:=by simpa using he
    have he2:(r.e != 0)=true:=by simpa using he
    have ht:Hid (r.end_=r.e):=Lib.hid (by rw [Rd.end_,if_neg he])
    clear he
    go_enter Tryz.func123,Tryz.ntmps123
    go_wp2
    all_goals (go_ret;exact ⟨by rw [ht.out];rfl,rfl⟩)
end Go.Proofs.YthgbdoofchknhaaGreatDoor
end
section
namespace Go.Proofs.YthgbdoofchknhaaGreatDoor
open Go.RowKit
def readF (l:List UInt8):Rd :=
 if l.length<8 then ⟨[],3⟩ else if getF (l.drop (l.length - 8))=sumF (l.take (l.length - 8)) then ⟨l.take (l.length - 8),0⟩ else ⟨[],2⟩
theorem readerAt_new {w:World} {v:Value} {r:Rd} {B:Nat} (hB:B<=w.heap.size) (h:SliceAt u8R w (From B) r.rest v) :
  ReaderAt (w.alloc (.cells #[v,.int .i64 r.e] 217)) (From B) r w.heap.size:=by
 obtain ⟨A,c,rfl,h1,h2,h3⟩:=h
 refine ⟨hB,_,heap_alloc_new w _,A,c,rfl,h1,h2,fun hp=>?_⟩
 obtain ⟨b,off,rfl,hb,hlt,cells,ha,hc⟩:=h3 hp
 refine ⟨b,off,rfl,⟨hb,by omega⟩,by simp;omega,cells,ha.mono fun x c h=>h,fun j u hu=>?_⟩
 exact ((Kp.refl No w).alloc _).cell (hc j u hu) (not_no _)
set_option maxHeartbeats 400000 in
theorem pack_Read (w : World) (F : Nat -> Prop) (v : Value) (l : List UInt8) (h : SliceAt u8R w F l v) (hb : l.length <= 140737488355328) :
    Calls Tryz.prog 122 #[v] w fun e w'=>∃p,e = .returned (.pointer (some ⟨p,0,none⟩))/\ReaderAt w' (From w.heap.size) (readF l) p/\Kp No w w':=by
  obtain ⟨A,m,c,rfl,hm,hc1,hc2⟩:=h.form'
  have H:=Lib.hid h
  have Hb:=Lib.hid hb
  clear h hb
  by_cases hs:m<8
  · have hr:Hid (readF l=⟨[],3⟩):=Lib.hid (if_pos (by rw [<- hm.out];exact hs))
    go_enter Tryz.func122,Tryz.ntmps122
    go_wp2
    go_ret
    rw [hr.out]
    exact ⟨_,rfl,readerAt_new (r:=⟨[],3⟩) (Nat.le_refl _) (SliceAt.nil _ _ _),(Kp.refl _ _).alloc _⟩
  · obtain ⟨k,rfl⟩:∃k,m=k+8:=⟨m - 8,by omega⟩
    have hck:¬c=k:=by omega
    have hl8:l.length - 8=k:=by rw [<- hm.out];omega
    have hd:Hid (SliceAt u8R w F (l.drop k) (.slice (A.map fun x=>x.add k) 8 (c - k))):=by
      have:=H.out.drop (k:=k) (q:=k) (by omega) (by simp [u8R,Rep.plain])
      rwa [show k+8 - k=8 by omega] at this
    have ht:Hid (SliceAt u8R w F (l.take k) (.slice A k c)):=H.out.take (by omega)
    have hr:Hid (readF l=if getF (l.drop k)=sumF (l.take k) then ⟨l.take k,0⟩ else ⟨[],2⟩):=by
      show readF l=_
      rw [readF,if_neg (by rw [<- hm.out];omega),hl8]
    clear hl8
    have q1:(0:Int)<=(k:Int):=by omega
    have q2:(k:Int)<=(k:Int)+8:=by omega
    have q3:k<=c:=by omega
    by_cases hg:getF (l.drop k)=sumF (l.take k)
    · have hg':(((getF (l.drop k)).toNat:Int) != ((sumF (l.take k)).toNat:Int))=false:=by rw [hg];simp
      rw [if_pos hg] at hr
      clear hg
      go_enter Tryz.func122,Tryz.ntmps122
      go_wp2_with fail
      go_region_held3 (fun w'=>Hid (Kp No w w')) (first | exact Lib.hid (Kp.refl _ _).drew | assumption)
        (first
          | (go_at_call 147;refine (pack_get _ F _ _ (hd.out.kp (Hid.out (p:=Kp No w _) (by assumption)) (fun _ _=>id))).mono ?_;rintro e w' ⟨rfl,rfl⟩)
          | (go_at_call 95;refine (pack_Sum _ F _ _ (ht.out.kp (Hid.out (p:=Kp No w _) (by assumption)) (fun _ _=>id))).mono ?_;rintro e w' ⟨rfl,rfl⟩))
      go_wp2_with fail
      refine (bytes_Clone _ F _ _ (ht.out.kp ((Kp.refl No w).drew) (fun _ _=>id)) (by have:=Hb.out;simp;omega)).mono ?_
      rintro e w1 ⟨v1,rfl,ho1,hk1⟩
      obtain ⟨A1,m1,c1,rfl,_,_,_⟩:=ho1.form'
      have Ho1:=Lib.hid ho1
      have Hk1:=Lib.hid hk1
      clear ho1 hk1
      go_wp2
      go_ret
      rw [hr]
      refine ⟨_,rfl,readerAt_new (r:=⟨l.take k,0⟩) Hk1.out.size (Ho1.out.slice.mono fun b _ hb=>hb.elim (fun h=>h.elim) id),(((Kp.refl No w).drew).trans Hk1.out).alloc _⟩
    · have hg' : (((getF (l.drop k)).toNat : Int) != ((sumF (l.take k)).toNat : Int)) = true := by
        simp only [bne_iff_ne,ne_eq,Int.natCast_inj]
        exact fun h=>hg (UInt64.toNat_inj.1 h)
      rw [if_neg hg] at hr
      clear hg
      go_enter Tryz.func122,Tryz.ntmps122
      go_wp2_with fail
      go_region_held3 (fun w'=>Hid (Kp No w w')) (first | exact Lib.hid (Kp.refl _ _).drew | assumption)
        (first
          | (go_at_call 147;refine (pack_get _ F _ _ (hd.out.kp (Hid.out (p:=Kp No w _) (by assumption)) (fun _ _=>id))).mono ?_;rintro e w' ⟨rfl,rfl⟩)
          | (go_at_call 95;refine (pack_Sum _ F _ _ (ht.out.kp (Hid.out (p:=Kp No w _) (by assumption)) (fun _ _=>id))).mono ?_;rintro e w' ⟨rfl,rfl⟩))
      go_wp2
      go_ret
      rw [hr]
      exact ⟨_,rfl,readerAt_new (w:=w.drew) (r:=⟨[],2⟩) (Nat.le_refl _) (SliceAt.nil _ _ _),((Kp.refl No w).drew).alloc _⟩
end Go.Proofs.YthgbdoofchknhaaGreatDoor
end
section
namespace Go.Proofs.YthgbdoofchknhaaGreatDoor
open Go.RowKit
theorem run_make_u8 (n:Nat) (hn:n<=8) (w:World):(Instr.makeSlice 66 (.int .i64 (n:Int)) (.int .i64 (n:Int))).run Tryz.prog w = .ok (.slice (some ⟨w.heap.size,0,none⟩) n n) (w.alloc (.cells (madeCells #[.int .u8 0] n) 5)):=by
 obtain ⟨ht,i,z,hi,hz,hs,hby,hzs⟩:=elem_parts Tryz.el34
 obtain rfl:z = .int .u8 0:=by
  have hz0:=Tryz.u8zero
  rw [hi] at hz0
  exact Option.some.inj (hz.symm.trans hz0)
 have hr:=run_make (P:=Tryz.prog) w 66 5 i _ ht hi hz .i64 .i64 n n (by omega) (by omega) (by rw [hby];omega) (by omega)
 simpa [hs,Value.cells] using hr
def BigAt (w wr:World) (n:UInt64) (s k:Nat):Prop :=
 ∃cs:Array Value,wr.heap[w.heap.size]?=some (.cells cs 5 (0,0))/\cs.size=s/\(∀j,k<=j->j<s->cs[j]?=some (.int .u8 (byteAt n s j).toNat))/\Kp No w wr
theorem big_step (n:UInt64) (s k:Nat) (hk:k<s):((n.toNat / 256 ^ (s - (k+1)):Nat):Int) % 256=((byteAt n s k).toNat:Int):=by
 unfold byteAt
 rw [UInt8.toNat_ofNat',show s - 1 - k=s - (k+1) by omega,Nat.pow_mul,show (2 ^ 8:Nat)=256 from rfl]
 omega
theorem big_next (n s k:Nat) (hk:k<s):((n / 256 ^ (s - (k+1)):Nat):Int) / 256=((n / 256 ^ (s - k):Nat):Int):=by
 rw [show s - k=s - (k+1)+1 by omega,Nat.pow_succ,<- Nat.div_div_eq_div_mul]
 omega
set_option maxHeartbeats 400000 in
theorem ref_Big (w : World) (n : UInt64) (s : Nat) (hs : s <= 8) :
    Calls Tryz.prog 23 #[.int .u64 n.toNat,.int .i64 s] w fun e w'=>e = .returned (.string (bs (putF n s)))/\Kp No w w':=by
  have hmk:=run_make_u8 s hs
  go_enter Tryz.func23,Tryz.ntmps23
  go_wp2
  clear hmk
  go_loopw [0,6] (fun m i wr=>∃k:Nat,k<=s/\i = .int .i64 ((k:Int) - 1)/\m = .int .u64 ((n.toNat / 256 ^ (s - k):Nat):Int)/\BigAt w wr n s k) (fun _ i _=>(intOf i+1).toNat)
  case atStart=>exact ⟨s,Nat.le_refl _,rfl,by simp,_,heap_alloc_new w _,by simp [madeCells],fun j h1 h2=>absurd h1 (by omega),(Kp.refl _ w).alloc _⟩
  case round =>
    obtain ⟨k,hk,rfl,rfl,hbig⟩:=hrel
    obtain ⟨cs,hh,hcs,hdone,hkp⟩:=hbig
    have Hh:=Lib.hid hh
    have Hd:=Lib.hid hdone
    have Hkp:=Lib.hid hkp
    have Hcs:=Lib.hid hcs
    by_cases hlt:0<k
    · obtain ⟨j,rfl⟩:∃j,k=j+1:=⟨k - 1,by omega⟩
      obtain ⟨u,hc⟩:∃u,wr.cell? ⟨w.heap.size,j,none⟩=some u:=⟨cs[j]'(by omega),by rw [cell_of_row wr w.heap.size j _ _ _ hh];exact Array.getElem?_eq_getElem (by omega)⟩
      have hf:wr.frozen? ⟨w.heap.size,j,none⟩=false:=by simp [World.frozen?,hh]
      have Hs1:=Lib.hid (big_step n s j (by omega))
      have Hs2:=Lib.hid (big_next n.toNat s j (by omega))
      have q1:(j:Int)<(s:Int):=by omega
      clear hh hdone hkp hcs
      obtain ⟨q,hq⟩:∃q:Nat,q=n.toNat / 256 ^ (s - (j+1)):=⟨_,rfl⟩
      rw [<- hq]
      rw [<- hq] at Hs1 Hs2
      have hq1:q<18446744073709551616:=by have:=u64_lt n;rw [hq];exact Nat.lt_of_le_of_lt (Nat.div_le_self _ _) this
      have Hq:=Lib.hid hq
      clear hq
      go_wp2
      refine ⟨⟨j,by omega,rfl,by rw [Hs2.out],_,heap_setCell_same _ _ _ _ _ _ Hh.out,by rw [Array.size_setIfInBounds,Hcs.out],fun i h1 h2=>?_,Hkp.out.setCell (p:=⟨w.heap.size,j,none⟩) (.inr (Nat.le_refl _)) _⟩,by simp [intOf]⟩
      rw [Array.getElem?_setIfInBounds]
      split
      · rename_i e
        subst e
        rw [if_pos (by rw [Hcs.out];omega),Hs1.out]
      · exact Hd.out i (by omega) h2
    · obtain rfl:k=0:=by omega
      clear hh hdone hkp hcs
      have hcv:=run_conv_str (w:=wr) (F:=From w.heap.size) (l:=putF n s) (v:=.slice (some ⟨w.heap.size,0,none⟩) s s) Tryz.underlying66 Tryz.underlying5 Tryz.underlying9 (by
        refine ⟨_,s,by rw [putF_len],by rw [putF_len];exact Nat.le_refl _,by unfold maxLen;omega,fun _=>⟨w.heap.size,0,rfl,Nat.le_refl _,(Array.getElem?_eq_some_iff.1 Hh.out).1,_,all2_u8 _ _ _,fun j u hu=>?_⟩⟩
        rw [Nat.zero_add,cell_of_row wr w.heap.size j _ _ _ Hh.out]
        have hj:j<s:=by
          have:=(List.getElem?_eq_some_iff.1 hu).1
          simpa [putF_len] using this
        rw [Hd.out j (by omega) hj]
        rw [List.getElem?_map,putF_get n s j hj] at hu
        exact hu)
      go_wp2
      go_ret
      exact ⟨rfl,Hkp.out⟩
end Go.Proofs.YthgbdoofchknhaaGreatDoor
end
section
namespace Go.Proofs.YthgbdoofchknhaaGreatDoor
open Go.RowKit
def valN (l:List UInt8):Nat:=l.foldl (fun a x=>a*256+x.toNat) 0
theorem valN_snoc (l:List UInt8) (x:UInt8):valN (l++[x])=valN l*256+x.toNat:=by simp [valN]
theorem snoc_cases {α:Type} (l:List α):l=[]\/∃m x,l=m++[x]:=by
 rcases List.eq_nil_or_concat l with h | ⟨m,x,h⟩
 ·exact .inl h
 ·exact .inr ⟨m,x,by simpa using h⟩
theorem valN_lt:∀(n:Nat) (l:List UInt8),l.length=n->valN l<256 ^ n:=by
  intro n
  induction n with
  | zero=>intro l h;have:=List.eq_nil_of_length_eq_zero h;subst this;simp [valN]
  | succ n ih =>
    intro l h
    rcases snoc_cases l with rfl | ⟨m,x,rfl⟩
    · simp at h
    · have:=ih m (by simpa using h)
      have hx:=u8_lt x
      rw [valN_snoc,Nat.pow_succ]
      omega
theorem getF_val:∀(n:Nat) (l:List UInt8),l.length=n->n<=8->(getF l).toNat=valN l:=by
  intro n
  induction n with
  | zero=>intro l h _;have:=List.eq_nil_of_length_eq_zero h;subst this;rfl
  | succ n ih =>
    intro l h h8
    rcases snoc_cases l with rfl | ⟨m,x,rfl⟩
    · simp at h
    · have hm:=ih m (by simpa using h) (by omega)
      have hlt:=valN_lt n m (by simpa using h)
      have hx:=u8_lt x
      have hp:256 ^ n<=256 ^ 7:=Nat.pow_le_pow_right (by omega) (by omega)
      rw [valN_snoc,getF_snoc,UInt64.toNat_or,UInt64.toNat_shiftLeft,UInt8.toNat_toUInt64,hm]
      have e1:(valN m <<< ((8:UInt64).toNat % 64)) % 2 ^ 64=valN m*256:=by
        simp [Nat.shiftLeft_eq]
        omega
      rw [e1,nat_join 8 (valN m*256) x.toNat (by omega) hx]
def putN (n s:Nat):List UInt8:=(List.range s).map fun i=>UInt8.ofNat (n / 2 ^ (8*(s - 1 - i)))
theorem putF_putN (n:UInt64) (s:Nat):putF n s=putN n.toNat s:=rfl
theorem putN_succ (n s:Nat):putN n (s+1)=putN (n / 256) s++[UInt8.ofNat n]:=by
 unfold putN
 rw [List.range_succ,List.map_append]
 congr 1
 ·refine List.map_congr_left fun i hi=>?_
  have hi:i<s:=List.mem_range.1 hi
  rw [Nat.div_div_eq_div_mul,show (256:Nat)=2 ^ 8 from rfl,<- Nat.pow_add]
  congr 3
  omega
 ·simp
theorem valN_putN:∀(s n:Nat),valN (putN n s)=n % 256 ^ s:=by
 intro s
 induction s with
 | zero=>intro n;simp [putN,valN,Nat.mod_one]
 | succ s ih =>
  intro n
  have h:n % 256 ^ (s+1)=n % 256+256*(n / 256 % 256 ^ s):=by rw [Nat.pow_succ,Nat.mul_comm,Nat.mod_mul]
  rw [putN_succ,valN_snoc,ih,UInt8.toNat_ofNat',h]
  omega
theorem getF_putF (n:UInt64):getF (putF n 8)=n:=by
 refine UInt64.toNat_inj.1 ?_
 rw [getF_val 8 _ (putF_len n 8) (by omega),putF_putN,valN_putN]
 have:=u64_lt n
 omega
theorem toList_ne {a b:ByteArray} (h:¬a=b):(a.toList == b.toList)=false:=by
 rw [beq_eq_false_iff_ne]
 intro e
 rw [ByteArray.toList_eq,ByteArray.toList_eq] at e
 exact h (ByteArray.ext (Array.ext' e))
theorem toList_same {a b:ByteArray} (h:a=b):(a.toList == b.toList)=true:=by rw [h];simp
end Go.Proofs.YthgbdoofchknhaaGreatDoor
end
section
namespace Go.Proofs.YthgbdoofchknhaaGreatDoor
open Go.RowKit
theorem take_app (a b:List UInt8) (n:Nat) (h:a.length=n):Rd.take ⟨a++b,0⟩ n=(a,⟨b,0⟩):=by
 unfold Rd.take
 rw [if_pos rfl,if_neg (by simp;omega)]
 simp only [<- h,List.take_left,List.drop_left]
theorem wide_app (n:UInt64) (b:List UInt8):Rd.wide ⟨putF n 8++b,0⟩=n:=by
 rw [Rd.wide,take_app _ _ _ (putF_len n 8),getF_putF]
theorem take8_app (n:UInt64) (b:List UInt8):(Rd.take ⟨putF n 8++b,0⟩ 8).2=⟨b,0⟩:=by rw [take_app _ _ _ (putF_len n 8)]
theorem i64of_ofInt (n:Int) (h1:-9223372036854775808<=n) (h2:n<=9223372036854775807):i64of (UInt64.ofInt n)=n:=by
 have e:=u64_ofInt n
 rw [IntKind.wrap_u64] at e
 unfold i64of wrap64
 omega
theorem readF_seal (l:List UInt8):readF (l++putF (sumF l) 8)=⟨l,0⟩:=by
 have hl:(l++putF (sumF l) 8).length - 8=l.length:=by simp [putF_len]
 rw [readF,if_neg (by simp [putF_len]),hl,List.drop_left,List.take_left,if_pos (getF_putF _)]
theorem Kp.fresh {w w':World} (h:Kp (From w.heap.size) w w'):Kp No w w':=h.mono fun k hk hf=>absurd hf (by unfold From;omega)
end Go.Proofs.YthgbdoofchknhaaGreatDoor
end
section
namespace Go.Proofs.YthgbdoofchknhaaGreatDoor
open Go.RowKit
structure Hd where
 hi:UInt64
 lo:UInt64
structure Cb where
 value:Hd
 care:Hd
structure Ac where
 kind:UInt64
 port:UInt64
 table:UInt64
 set:Cb
structure Rl where
 prio:UInt64
 mat:Cb
 act:Ac
structure Pt where
 kind:UInt64
 tenant:UInt64
 peer:UInt64
 at_:UInt64
 cost:UInt64
structure Wy where
 fro:UInt64
 «to» :UInt64
 via:UInt64
structure Pr where
 a:UInt64
 b:UInt64
structure Cfg where
 ports:List (List Pt)
 tenants:UInt64
 peers:List Pr
 ways:List Wy
 tables:List (List (List Rl))
def Hd.words (x:Hd):List UInt64:=[x.hi,x.lo]
def Cb.words (x:Cb):List UInt64:=[x.value.hi,x.value.lo,x.care.hi,x.care.lo]
def Rl.words (x:Rl):List UInt64:=[x.prio,x.mat.value.hi,x.mat.value.lo,x.mat.care.hi,x.mat.care.lo,x.act.kind,x.act.port,x.act.table,x.act.set.value.hi,x.act.set.value.lo,x.act.set.care.hi,x.act.set.care.lo]
def Pt.words (x:Pt):List UInt64:=[x.kind,x.tenant,x.peer,x.at_,x.cost]
def Wy.words (x:Wy):List UInt64:=[x.fro,x.to,x.via]
def Pr.words (x:Pr):List UInt64:=[x.a,x.b]
def itemsW {α:Type} (f:α->List UInt64) (l:List α):List UInt64:=UInt64.ofNat l.length::l.flatMap f
def portsW (l:List Pt):List UInt64:=itemsW Pt.words l
def rulesW (l:List Rl):List UInt64:=itemsW Rl.words l
def tablesW (l:List (List Rl)):List UInt64:=itemsW rulesW l
def Cfg.words (c:Cfg):List UInt64:=itemsW portsW c.ports++(c.tenants::(itemsW Pr.words c.peers++(itemsW Wy.words c.ways++itemsW tablesW c.tables)))
def enc8 (ws:List UInt64):List UInt8:=ws.flatMap fun n=>putF n 8
theorem enc8_nil:enc8 []=[]:=rfl
theorem enc8_cons (n:UInt64) (ws:List UInt64):enc8 (n::ws)=putF n 8++enc8 ws:=rfl
theorem enc8_append (a b:List UInt64):enc8 (a++b)=enc8 a++enc8 b:=by simp [enc8]
theorem enc8_len:∀ws:List UInt64,(enc8 ws).length=8*ws.length
 | []=>rfl
 | n::ws=>by rw [enc8_cons,List.length_append,putF_len,enc8_len ws,List.length_cons];omega
def fitL {α:Type} (f:α->Bool) (l:List α):Bool:=decide (l.length<=200) && l.all f
def yes {α:Type} (_:α):Bool:=true
def portsFit (l:List Pt):Bool:=fitL yes l
def rulesFit (l:List Rl):Bool:=fitL yes l
def tablesFit (l:List (List Rl)):Bool:=fitL rulesFit l
def Cfg.fit (c:Cfg):Bool:=fitL portsFit c.ports && (fitL yes c.peers && (fitL yes c.ways && fitL tablesFit c.tables))
abbrev RS:=Rd × Bool
def RS.word (s:RS):UInt64 × RS:=(s.1.wide,((s.1.take 8).2,s.2))
def rdN {α:Type} (item:RS->α × RS):Nat->RS->List α × RS
 | 0,s=>([],s)
 | k+1,s=>((rdN item k s).1++[(item (rdN item k s).2).1],(item (rdN item k s).2).2)
def rdList {α:Type} (item:RS->α × RS) (s:RS):List α × RS :=
 if i64of s.1.wide<0\/200<i64of s.1.wide\/((s.1.take 8).2.left:Int)<i64of s.1.wide then ([],((s.1.take 8).2,s.2 || (i64of s.1.wide != 0))) else rdN item (i64of s.1.wide).toNat ((s.1.take 8).2,s.2)
def rdHd (s:RS):Hd × RS:=(⟨s.word.1,s.word.2.word.1⟩,s.word.2.word.2)
def rdCb (s:RS):Cb × RS:=(⟨(rdHd s).1,(rdHd (rdHd s).2).1⟩,(rdHd (rdHd s).2).2)
def rdPt (s:RS):Pt × RS:=(⟨s.word.1,s.word.2.word.1,s.word.2.word.2.word.1,s.word.2.word.2.word.2.word.1,s.word.2.word.2.word.2.word.2.word.1⟩,s.word.2.word.2.word.2.word.2.word.2)
def rdWy (s:RS):Wy × RS:=(⟨s.word.1,s.word.2.word.1,s.word.2.word.2.word.1⟩,s.word.2.word.2.word.2)
def rdPr (s:RS):Pr × RS:=(⟨s.word.1,s.word.2.word.1⟩,s.word.2.word.2)
def rdAc3 (s:RS):RS:=s.word.2.word.2.word.2
def rdRl (s:RS):Rl × RS :=
 (⟨s.word.1,(rdCb s.word.2).1,⟨(rdCb s.word.2).2.word.1,(rdCb s.word.2).2.word.2.word.1,(rdCb s.word.2).2.word.2.word.2.word.1,(rdCb (rdAc3 (rdCb s.word.2).2)).1⟩⟩,(rdCb (rdAc3 (rdCb s.word.2).2)).2)
def rdPorts:RS->List Pt × RS:=rdList rdPt
def rdRules:RS->List Rl × RS:=rdList rdRl
def rdTables:RS->List (List Rl) × RS:=rdList rdRules
def rdCfg (s:RS):Cfg × RS :=
 (⟨(rdList rdPorts s).1,(rdList rdPorts s).2.word.1,(rdList rdPr (rdList rdPorts s).2.word.2).1,(rdList rdWy (rdList rdPr (rdList rdPorts s).2.word.2).2).1,(rdList rdTables (rdList rdWy (rdList rdPr (rdList rdPorts s).2.word.2).2).2).1⟩,
  (rdList rdTables (rdList rdWy (rdList rdPr (rdList rdPorts s).2.word.2).2).2).2)
def has (l:List UInt8):RS:=(⟨l,0⟩,false)
theorem word_app (n:UInt64) (l:List UInt8):(has (putF n 8++l)).word=(n,has l):=by
 unfold RS.word has
 rw [wide_app,take8_app]
def Reads {α:Type} (item:RS->α × RS) (f:α->List UInt64) (x:α):Prop:=∀t,item (has (enc8 (f x)++t))=(x,has t)
theorem i64of_small {n:Nat} (h:n<=200):i64of (UInt64.ofNat n)=n:=by
 unfold i64of wrap64
 rw [UInt64.toNat_ofNat']
 omega
theorem rdN_app {α:Type} {item:RS->α × RS} {f:α->List UInt64}:∀(l:List α) (t:List UInt8),(∀x∈l,Reads item f x)->rdN item l.length (has (enc8 (l.flatMap f)++t))=(l,has t):=by
 have main:∀(k:Nat) (l:List α) (t:List UInt8),k<=l.length->(∀x∈l,Reads item f x)->rdN item k (has (enc8 (l.flatMap f)++t))=(l.take k,has (enc8 ((l.drop k).flatMap f)++t)):=by
  intro k
  induction k with
  | zero=>intro l t _ _;simp [rdN]
  | succ k ih =>
   intro l t hk hr
   have h:=ih l t (by omega) hr
   obtain ⟨x,hx⟩:∃x,l[k]?=some x:=⟨_,List.getElem?_eq_getElem (by omega)⟩
   have hd:l.drop k=x::l.drop (k+1):=by
    obtain ⟨hlt,e⟩:=List.getElem?_eq_some_iff.1 hx
    rw [List.drop_eq_getElem_cons hlt,e]
   rw [rdN,h,hd,List.flatMap_cons,enc8_append,List.append_assoc,hr x (List.mem_of_getElem? hx),take_snoc hx]
 intro l t hr
 have h:=main l.length l t (Nat.le_refl _) hr
 rw [List.take_of_length_le (Nat.le_refl _),List.drop_of_length_le (Nat.le_refl _)] at h
 exact h
theorem flat_len {α:Type} {f:α->List UInt64} (hf:∀x,f x≠[]):∀l:List α,l.length<=(l.flatMap f).length
 | []=>Nat.le_refl _
 | x::l=>by
  have h1:=flat_len hf l
  have h2:=List.length_pos_iff.2 (hf x)
  rw [List.flatMap_cons,List.length_append,List.length_cons]
  omega
theorem reads_list {α:Type} {item:RS->α × RS} {f:α->List UInt64} {ok:α->Bool} (hf:∀x,f x≠[]) (hr:∀x,ok x=true->Reads item f x) (l:List α) (hl:fitL ok l=true):Reads (rdList item) (itemsW f) l:=by
 intro t
 simp only [fitL,Bool.and_eq_true,decide_eq_true_eq,List.all_eq_true] at hl
 have h1:=i64of_small hl.1
 have h2:=flat_len hf l
 have hw:(has (enc8 (itemsW f l)++t)).1.wide=UInt64.ofNat l.length:=by
  rw [itemsW,enc8_cons,List.append_assoc]
  exact wide_app _ _
 have ht:((has (enc8 (itemsW f l)++t)).1.take 8).2=⟨enc8 (l.flatMap f)++t,0⟩:=by
  rw [itemsW,enc8_cons,List.append_assoc]
  exact take8_app _ _
 unfold rdList
 rw [hw,ht,h1,if_neg,Int.toNat_natCast]
 ·exact rdN_app l t fun x hx=>hr x (hl.2 x hx)
 ·have:Rd.left ⟨enc8 (l.flatMap f)++t,0⟩=8*(l.flatMap f).length+t.length:=by
   rw [Rd.left,if_pos rfl,List.length_append,enc8_len]
  rw [this]
  omega
theorem reads_pt (x:Pt):Reads rdPt Pt.words x:=by
 intro t
 simp only [Pt.words,enc8_cons,enc8_nil,List.append_assoc,List.nil_append,rdPt,word_app]
theorem reads_wy (x:Wy):Reads rdWy Wy.words x:=by
 intro t
 simp only [Wy.words,enc8_cons,enc8_nil,List.append_assoc,List.nil_append,rdWy,word_app]
theorem reads_pr (x:Pr):Reads rdPr Pr.words x:=by
 intro t
 simp only [Pr.words,enc8_cons,enc8_nil,List.append_assoc,List.nil_append,rdPr,word_app]
theorem reads_rl (x:Rl):Reads rdRl Rl.words x:=by
 intro t
 simp only [Rl.words,enc8_cons,enc8_nil,List.append_assoc,List.nil_append,rdRl,rdCb,rdHd,rdAc3,word_app]
theorem itemsW_ne {α:Type} (f:α->List UInt64) (l:List α):itemsW f l≠[]:=by simp [itemsW]
theorem reads_ports (l:List Pt) (h:portsFit l=true):Reads rdPorts portsW l:=reads_list (fun _=>by simp [Pt.words]) (fun x _=>reads_pt x) l h
theorem reads_rules (l:List Rl) (h:rulesFit l=true):Reads rdRules rulesW l:=reads_list (fun _=>by simp [Rl.words]) (fun x _=>reads_rl x) l h
theorem reads_tables (l:List (List Rl)) (h:tablesFit l=true):Reads rdTables tablesW l:=reads_list (fun _=>itemsW_ne _ _) reads_rules l h
theorem reads_cfg (c:Cfg) (h:c.fit=true):Reads rdCfg Cfg.words c:=by
 intro t
 simp only [Cfg.fit,Bool.and_eq_true] at h
 obtain ⟨h1,h2,h3,h4⟩:=h
 have r1:=reads_list (item:=rdPorts) (f:=portsW) (fun _=>itemsW_ne _ _) reads_ports c.ports h1
 have r2:=reads_list (item:=rdPr) (f:=Pr.words) (fun _=>by simp [Pr.words]) (fun x _=>reads_pr x) c.peers h2
 have r3:=reads_list (item:=rdWy) (f:=Wy.words) (fun _=>by simp [Wy.words]) (fun x _=>reads_wy x) c.ways h3
 have r4:=reads_list (item:=rdTables) (f:=tablesW) (fun _=>itemsW_ne _ _) reads_tables c.tables h4
 unfold Reads at r1 r2 r3 r4
 simp only [Cfg.words,enc8_cons,enc8_append,List.append_assoc,rdCfg,r1,word_app,r2,r3,r4]
end Go.Proofs.YthgbdoofchknhaaGreatDoor
end
section
namespace Go.Proofs.YthgbdoofchknhaaGreatDoor
open Go.RowKit
def ptR:Rep Pt:=Rep.plain 5 (fun x=>[.int .i64 (i64of x.kind),.int .i64 (i64of x.tenant),.int .i64 (i64of x.peer),.int .i64 (i64of x.at_),.int .i64 (i64of x.cost)]) (fun _=>rfl) (by simp [Value.oneCell'])
theorem SliceAt.get_Pt {w:World} {F:Nat->Prop} {xs:List Pt} {A:Option Addr} {n c k:Nat} {x:Pt} (h:SliceAt ptR w F xs (.slice A n c)) (hk:xs[k]?=some x) :
  ∃b off,A=some ⟨b,off,none⟩/\F b/\w.cell? ⟨b,off+k*5,none⟩=some (.int .i64 (i64of x.kind))/\w.cell? ⟨b,off+k*5+1,none⟩=some (.int .i64 (i64of x.tenant))/\w.cell? ⟨b,off+k*5+2,none⟩=some (.int .i64 (i64of x.peer))/\w.cell? ⟨b,off+k*5+3,none⟩=some (.int .i64 (i64of x.at_))/\w.cell? ⟨b,off+k*5+4,none⟩=some (.int .i64 (i64of x.cost)):=by
 obtain ⟨b,off,cs,rfl,hF,_,hr,hc⟩:=h.get hk
 obtain rfl:cs=_:=hr
 exact ⟨b,off,rfl,hF,hc 0 _ rfl,hc 1 _ rfl,hc 2 _ rfl,hc 3 _ rfl,hc 4 _ rfl⟩
def wyR:Rep Wy:=Rep.plain 3 (fun x=>[.int .i64 (i64of x.fro),.int .i64 (i64of x.to),.int .i64 (i64of x.via)]) (fun _=>rfl) (by simp [Value.oneCell'])
theorem SliceAt.get_Wy {w:World} {F:Nat->Prop} {xs:List Wy} {A:Option Addr} {n c k:Nat} {x:Wy} (h:SliceAt wyR w F xs (.slice A n c)) (hk:xs[k]?=some x) :
  ∃b off,A=some ⟨b,off,none⟩/\F b/\w.cell? ⟨b,off+k*3,none⟩=some (.int .i64 (i64of x.fro))/\w.cell? ⟨b,off+k*3+1,none⟩=some (.int .i64 (i64of x.to))/\w.cell? ⟨b,off+k*3+2,none⟩=some (.int .i64 (i64of x.via)):=by
 obtain ⟨b,off,cs,rfl,hF,_,hr,hc⟩:=h.get hk
 obtain rfl:cs=_:=hr
 exact ⟨b,off,rfl,hF,hc 0 _ rfl,hc 1 _ rfl,hc 2 _ rfl⟩
def prR:Rep Pr:=Rep.plain 2 (fun x=>[.int .i64 (i64of x.a),.int .i64 (i64of x.b)]) (fun _=>rfl) (by simp [Value.oneCell'])
theorem SliceAt.get_Pr {w:World} {F:Nat->Prop} {xs:List Pr} {A:Option Addr} {n c k:Nat} {x:Pr} (h:SliceAt prR w F xs (.slice A n c)) (hk:xs[k]?=some x) :
  ∃b off,A=some ⟨b,off,none⟩/\F b/\w.cell? ⟨b,off+k*2,none⟩=some (.int .i64 (i64of x.a))/\w.cell? ⟨b,off+k*2+1,none⟩=some (.int .i64 (i64of x.b)):=by
 obtain ⟨b,off,cs,rfl,hF,_,hr,hc⟩:=h.get hk
 obtain rfl:cs=_:=hr
 exact ⟨b,off,rfl,hF,hc 0 _ rfl,hc 1 _ rfl⟩
def rlR:Rep Rl:=Rep.plain 12 (fun x=>[.int .i64 (i64of x.prio),.int .u64 x.mat.value.hi.toNat,.int .u64 x.mat.value.lo.toNat,.int .u64 x.mat.care.hi.toNat,.int .u64 x.mat.care.lo.toNat,.int .i64 (i64of x.act.kind),.int .i64 (i64of x.act.port),.int .i64 (i64of x.act.table),.int .u64 x.act.set.value.hi.toNat,.int .u64 x.act.set.value.lo.toNat,.int .u64 x.act.set.care.hi.toNat,.int .u64 x.act.set.care.lo.toNat]) (fun _=>rfl) (by simp [Value.oneCell'])
theorem SliceAt.get_Rl {w:World} {F:Nat->Prop} {xs:List Rl} {A:Option Addr} {n c k:Nat} {x:Rl} (h:SliceAt rlR w F xs (.slice A n c)) (hk:xs[k]?=some x) :
  ∃b off,A=some ⟨b,off,none⟩/\F b/\w.cell? ⟨b,off+k*12,none⟩=some (.int .i64 (i64of x.prio))/\w.cell? ⟨b,off+k*12+1,none⟩=some (.int .u64 x.mat.value.hi.toNat)/\w.cell? ⟨b,off+k*12+2,none⟩=some (.int .u64 x.mat.value.lo.toNat)/\w.cell? ⟨b,off+k*12+3,none⟩=some (.int .u64 x.mat.care.hi.toNat)/\w.cell? ⟨b,off+k*12+4,none⟩=some (.int .u64 x.mat.care.lo.toNat)/\w.cell? ⟨b,off+k*12+5,none⟩=some (.int .i64 (i64of x.act.kind))/\w.cell? ⟨b,off+k*12+6,none⟩=some (.int .i64 (i64of x.act.port))/\w.cell? ⟨b,off+k*12+7,none⟩=some (.int .i64 (i64of x.act.table))/\w.cell? ⟨b,off+k*12+8,none⟩=some (.int .u64 x.act.set.value.hi.toNat)/\w.cell? ⟨b,off+k*12+9,none⟩=some (.int .u64 x.act.set.value.lo.toNat)/\w.cell? ⟨b,off+k*12+10,none⟩=some (.int .u64 x.act.set.care.hi.toNat)/\w.cell? ⟨b,off+k*12+11,none⟩=some (.int .u64 x.act.set.care.lo.toNat):=by
 obtain ⟨b,off,cs,rfl,hF,_,hr,hc⟩:=h.get hk
 obtain rfl:cs=_:=hr
 exact ⟨b,off,rfl,hF,hc 0 _ rfl,hc 1 _ rfl,hc 2 _ rfl,hc 3 _ rfl,hc 4 _ rfl,hc 5 _ rfl,hc 6 _ rfl,hc 7 _ rfl,hc 8 _ rfl,hc 9 _ rfl,hc 10 _ rfl,hc 11 _ rfl⟩
theorem SliceAt.get_slice {α:Type} {R:Rep α} {w:World} {F:Nat->Prop} {xs:List (List α)} {A:Option Addr} {n c k:Nat} {x:List α} (h:SliceAt R.slice w F xs (.slice A n c)) (hk:xs[k]?=some x) :
  ∃b off v,A=some ⟨b,off,none⟩/\F b/\w.cell? ⟨b,off+k,none⟩=some v/\SliceAt R w F x v:=by
 obtain ⟨b,off,cs,rfl,hF,_,hr,hc⟩:=h.get hk
 obtain ⟨v,rfl,hs⟩:=hr
 have h0:=hc 0 _ rfl
 exact ⟨b,off,v,rfl,hF,by rwa [show k*R.slice.n+0=k from Nat.mul_one k] at h0,hs⟩
end Go.Proofs.YthgbdoofchknhaaGreatDoor
end
section
namespace Go.Proofs.YthgbdoofchknhaaGreatDoor
open Go.RowKit
theorem ofInt_i64of (u:UInt64):UInt64.ofInt (i64of u)=u:=by
 have h:=u64_ofInt (i64of u)
 apply UInt64.toNat_inj.1
 have h1:=u64_lt u
 have h2:=u64_lt (UInt64.ofInt (i64of u))
 rw [IntKind.wrap_u64] at h
 unfold i64of wrap64 at h ⊢
 omega
def i64w:Rep UInt64:=Rep.plain 1 (fun u=>[.int .i64 (i64of u)]) (fun _=>rfl) (by simp [Value.oneCell'])
theorem SliceAt.get_i64 {w:World} {F:Nat->Prop} {xs:List UInt64} {A:Option Addr} {n c k:Nat} {x:UInt64} (h:SliceAt i64w w F xs (.slice A n c)) (hk:xs[k]?=some x) :
  ∃b off,A=some ⟨b,off,none⟩/\w.cell? ⟨b,off+k,none⟩=some (.int .i64 (i64of x)):=by
 obtain ⟨b,off,cs,rfl,_,_,hr,hc⟩:=h.get hk
 have hr':cs=[.int .i64 (i64of x)]:=hr
 subst hr'
 refine ⟨b,off,rfl,?_⟩
 have h:=hc 0 _ rfl
 rwa [show k*i64w.n+0=k from Nat.mul_one k] at h
def WirAt (w:World) (X:Nat->Prop) (l:List UInt8) (lg:Bool) (q:Nat):Prop :=
 ∃p,w.heap[q]?=some (.cells #[.pointer (some ⟨p,0,none⟩),.bool lg] 125 (0,0))/\X q/\WriterAt w (fun b=>X b/\b≠q) l p
theorem WirAt.kp {w w':World} {X S:Nat->Prop} {l:List UInt8} {lg:Bool} {q:Nat} (h:WirAt w X l lg q) (hk:Kp S w w') (hd:∀b,X b->¬S b):WirAt w' X l lg q:=by
 obtain ⟨p,h1,h2,h3⟩:=h
 exact ⟨p,hk.heap h1 (hd q h2),h2,h3.kp hk fun b hb=>hd b hb.1⟩
theorem WirAt.mono {w:World} {X X':Nat->Prop} {l:List UInt8} {lg:Bool} {q:Nat} (h:WirAt w X l lg q) (hd:∀b,X b->X' b):WirAt w X' l lg q:=by
 obtain ⟨p,h1,h2,h3⟩:=h
 exact ⟨p,h1,hd q h2,h3.mono fun b hb=>⟨hd b hb.1,hb.2⟩⟩
theorem WriterAt.clip {w:World} {X:Nat->Prop} {l:List UInt8} {p:Nat} (h:WriterAt w X l p):WriterAt w (fun b=>X b/\b<w.heap.size) l p:=by
 obtain ⟨hp,sv,hh,ho⟩:=h
 exact ⟨⟨hp,(Array.getElem?_eq_some_iff.1 hh).1⟩,sv,hh,ho.mono fun b hb h=>⟨⟨h.1,hb⟩,h.2⟩⟩
theorem WirAt.clip {w:World} {X:Nat->Prop} {l:List UInt8} {lg:Bool} {q:Nat} (h:WirAt w X l lg q):WirAt w (fun b=>X b/\b<w.heap.size) l lg q:=by
 obtain ⟨p,h1,h2,h3⟩:=h
 exact ⟨p,h1,⟨h2,(Array.getElem?_eq_some_iff.1 h1).1⟩,h3.clip.mono fun b hb=>⟨⟨hb.1.1,hb.2⟩,hb.1.2⟩⟩
def New (w:World) (X:Nat->Prop):Prop:=∀b,w.heap.size<=b->X b
theorem New.kp {w w':World} {X S:Nat->Prop} (h:New w X) (hk:Kp S w w'):New w' X:=fun b hb=>h b (Nat.le_trans hk.size hb)
theorem WirAt.put {w w1:World} {X:Nat->Prop} {l':List UInt8} {lg:Bool} {q p:Nat} (hq:w.heap[q]?=some (.cells #[.pointer (some ⟨p,0,none⟩),.bool lg] 125 (0,0))) (hXq:X q) (hX:New w X)
  (h1:WriterAt w1 (Or (fun b=>X b/\b≠q) w.heap.size) l' p) (hk:Kp (fun b=>X b/\b≠q) w w1):WirAt w1 X l' lg q/\Kp X w w1:=by
 have hlt:q<w.heap.size:=(Array.getElem?_eq_some_iff.1 hq).1
 exact ⟨⟨p,hk.heap hq (fun h=>h.2 rfl),hXq,h1.mono fun b hb=>hb.elim id fun h=>⟨hX b h,fun e=>by omega⟩⟩,hk.mono fun _ _ h=>h.1⟩
theorem WirAt.long {w:World} {X:Nat->Prop} {l:List UInt8} {lg:Bool} {q:Nat} (h:WirAt w X l lg q):WirAt (w.setCell ⟨q,1,none⟩ (.bool true)) X l true q/\Kp X w (w.setCell ⟨q,1,none⟩ (.bool true)):=by
 obtain ⟨p,h1,h2,h3⟩:=h
 have hk:Kp (fun b=>b=q) w (w.setCell ⟨q,1,none⟩ (.bool true)):=Kp.set1 _ _ _ _
 exact ⟨⟨p,heap_setCell_same w q 1 _ _ _ h1,h2,h3.kp hk fun b hb e=>hb.2 e⟩,hk.mono fun b _ e=>by subst e;exact h2⟩
set_option maxHeartbeats 400000 in
theorem wir_nums (w : World) (X F : Nat -> Prop) (l : List UInt8) (lg : Bool) (q : Nat) (v : Value) (ns : List UInt64) (h : WirAt w X l lg q) (hX : New w X) (hv : SliceAt i64w w F ns v) (hF : ∀ b, F b -> ¬ X b) (hb : l.length + 8 * ns.length <= 140737488355328) :
    Calls Tryz.prog 65 #[.pointer (some ⟨q,0,none⟩),v] w fun e w'=>e = .returned (.tuple #[])/\WirAt w' X (l++enc8 ns) lg q/\Kp X w w':=by
  obtain ⟨A,n,c,rfl,Hn,hc1,hc2⟩:=hv.form'
  have Hv:=Lib.hid hv
  have Hw:=Lib.hid h
  have HX:=Lib.hid hX
  have HF:=Lib.hid hF
  have Hb:=Lib.hid hb
  clear hv h hX hF hb
  go_enter Tryz.func65,Tryz.ntmps65
  go_wp2_with fail
  go_loopw [8] (fun i wr=>∃k:Nat,k<=n/\i = .int .i64 k/\WirAt wr X (l++enc8 (ns.take k)) lg q/\Kp X w wr) (fun i _=>n - (intOf i).toNat)
  case atStart=>exact ⟨0,Nat.zero_le _,rfl,by simpa [enc8] using Hw.out,Kp.refl _ _⟩
  case round =>
    obtain ⟨k,hk,rfl,hw,hkp⟩:=hrel
    have q3:(0:Int)<=(k:Int):=by omega
    by_cases hlt:k<n
    · obtain ⟨x,hx⟩:∃x,ns[k]?=some x:=⟨_,List.getElem?_eq_getElem (by rw [<- Hn.out];exact hlt)⟩
      obtain ⟨b,off,rfl,hc⟩:=(Hv.out.kp hkp HF.out).get_i64 hx
      obtain ⟨p,hq,hXq,hpw⟩:=hw
      have h0:wr.cell? ⟨q,0,none⟩=some (.pointer (some ⟨p,0,none⟩)):=cell_of_row wr q 0 _ _ _ hq
      have Hq:=Lib.hid hq
      have Hpw:=Lib.hid hpw
      have Hkp:=Lib.hid hkp
      have Hsn:=Lib.hid (take_snoc hx)
      have Hlen:=Lib.hid (show (ns.take k).length=k by rw [List.length_take,<- Hn.out];omega)
      have q1:(k:Int)<(n:Int):=by omega
      clear hq hpw hkp hx hlt
      go_wp2_with fail
      refine (Writer_Num _ _ _ _ (i64of x) Hpw.out (by have:=Hb.out;have:=Hlen.out;have:=Hn.out;rw [List.length_append,enc8_len];omega)).mono ?_
      rintro e w1 ⟨rfl,h1,hk1⟩
      have H1:=Lib.hid (WirAt.put Hq.out hXq (HX.out.kp Hkp.out) h1 hk1)
      clear h1 hk1
      go_wp2_with fail
      go_roundw
      case rel=>exact ⟨k+1,by omega,by go_num,by rw [Hsn.out,enc8_append,<- List.append_assoc,enc8_cons,enc8_nil,List.append_nil];have:=H1.out.1;rw [ofInt_i64of] at this;exact this,Hkp.out.trans H1.out.2⟩
      case measure=>simp [intOf];omega
    · have Hw2:=Lib.hid hw
      have Hkp:=Lib.hid hkp
      clear hw hkp
      go_wp2_with fail
      go_end0
      exact ⟨rfl,by have:=Hw2.out;rwa [List.take_of_length_le (by rw [<- Hn.out];omega)] at this,Hkp.out⟩
end Go.Proofs.YthgbdoofchknhaaGreatDoor
end
