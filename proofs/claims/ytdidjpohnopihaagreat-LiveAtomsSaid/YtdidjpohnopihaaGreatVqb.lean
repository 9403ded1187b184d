/- Contracts of the program's functions over data, and the plain laws that they meet (part 2). No condition. -/
import Derived.Test.YtdidjpohnopihaaGreatVqa
import Derived.WalkKit
import Derived.WalkSpells
import Derived.WalkLawsBesides
import Derived.Lib.Hide
import Derived.Deep.RegionHeld3
import Derived.Maps.AppendAt
import Derived.KernelRfl
import Derived.Lib.AppendStr
import Derived.Orders
import Derived.LoopTactic
import Derived.Laws.CopyRow
import Derived.Laws.Cells
import Derived.OrdersIn
import Derived.Laws.Externs
import Derived.TacticsIn
import Derived.RangeFuncLeaves
import Derived.RangeFuncRecord
import Derived.Great.BuildSlice
import Derived.Laws.ResultCell
import Derived.Laws.StructEq
import Derived.Laws.MakeOwn
import Derived.Lib.AppendZerosOnto
import Derived.RangeFuncSeq
import Derived.RangeFuncIn
set_option linter.unusedVariables false
set_option linter.unusedSimpArgs false
set_option maxRecDepth 100000
set_option maxHeartbeats 4000000
section
section
namespace Go.Proofs.YtdidjpohnopihaaGreat.Sm
open Go.RowKit
theorem _root_.Go.Proofs.YtdidjpohnopihaaGreat.Kp.setRow' {S:Nat->Prop}{a w:World}(h:Kp S a w){g:Nat}(hg:S g)(cs:Array Value):Kp S a (w.setRow g cs) :=
 ⟨h.os,h.tape,h.output,by simpa [World.setRow] using h.size,fun k hk hn=>(setRow_other w g k cs (fun e=>hn (e ▸ hg))).trans (h.block k hk hn)⟩
inductive CA (σ:Sto):AV->List AV->List Nat->Prop where
 |ro (cs:List AV):CA σ (.ro cs) cs []
 |own {id ep off t:Nat} {cs:List AV} (h:σ id=⟨ep,some (.box t cs)⟩):CA σ (.own id ep off) (cs.drop off) [id]
 |el {id ep k j t m:Nat} {els:List (List AV)} {cs:List AV} (h:σ id=⟨ep,some (.row t m els)⟩) (hk:els[k]?=some cs):CA σ (.el id ep k j) (cs.drop j) [id]
theorem CA.congr {σ σ':Sto}{x:AV}{cs:List AV}{l:List Nat}(h:CA σ x cs l)(hl:∀id∈l,σ' id=σ id):CA σ' x cs l:=by
 cases h with
 |ro cs=>exact .ro cs
 |own h=>exact .own ((hl _ (by simp)).trans h)
 |el h hk=>exact .el ((hl _ (by simp)).trans h) hk
section
variable {W:World} {F:Nat -> Prop} {μ:Mu} {σ:Sto} {v:Value} {id ep:Nat}
theorem Rel.own' {off:Nat}(h:Rel W F μ σ (.own id ep off) v):ep<=(σ id).ep/\v.oneCell'=true/\∀bd,σ id=⟨ep,some bd⟩->∃b c,μ id=some (b,c)/\v = .pointer (some ⟨b,off,none⟩):=by
 cases h with
 |pure h=>cases h
 |own _ _ _ _ h1 h2 h3=>exact⟨h1,h2,h3⟩
theorem Rel.el' {k j:Nat}(h:Rel W F μ σ (.el id ep k j) v):ep<=(σ id).ep/\v.oneCell'=true/\∀t m els,σ id=⟨ep,some (.row t m els)⟩->∃b c,μ id=some (b,c)/\v = .pointer (some ⟨b,k*m+j,none⟩):=by
 cases h with
 |pure h=>cases h
 |el _ _ _ _ _ h1 h2 h3=>exact⟨h1,h2,fun t m els h=>h3 _ _ _ h rfl⟩
theorem Rel.elG {k j:Nat}(h:Rel W F μ σ (.el id ep k j) v):ep<=(σ id).ep/\v.oneCell'=true/\∀bd m len,σ id=⟨ep,some bd⟩->bd.rowL=some (m,len)->∃b c,μ id=some (b,c)/\v = .pointer (some ⟨b,k*m+j,none⟩):=by
 cases h with
 |pure h=>cases h
 |el _ _ _ _ _ h1 h2 h3=>exact⟨h1,h2,h3⟩
theorem Rel.row' {off n:Nat}(h:Rel W F μ σ (.row id ep off n) v):ep<=(σ id).ep/\v.oneCell'=true/\∀t m els,σ id=⟨ep,some (.row t m els)⟩->FZ (μ id) m off n els.length v:=by
 cases h with
 |pure h=>cases h
 |row _ _ _ _ _ h1 h2 h3=>exact⟨h1,h2,fun t m els h=>h3 _ _ _ h rfl⟩
end
theorem CA.cells {W:World}{F:Nat -> Prop}{μ:Mu}{σ:Sto}(hi:Inv W F μ σ){x:AV}{cs:List AV}{l:List Nat}(h:CA σ x cs l){v:Value}(hx:Rel W F μ σ x v) :
  ∃b off,v = .pointer (some ⟨b,off,none⟩)/\∀(j:Nat) (y:AV),cs[j]?=some y->y.one=true/\∃u,W.cell? ⟨b,off+j,none⟩=some u/\Rel W F μ σ y u:=by
 cases h with
 |ro cs=>
  cases hx.ro' with
  |ro _ b off cell hF hb h1 hr hw=>exact⟨b,off,rfl,fun j y hj=>⟨h1 j y hj,_,hw j y hj,.pure (hr j y hj)⟩⟩
 |own h=>
   obtain⟨he,h1,hv⟩:=Rel.own' hx
   obtain⟨b,c,hp,rfl⟩:=hv _ h
   obtain⟨b',c',vs,hp',hh,hl,hr⟩:=hi.body _ _ _ h
   obtain⟨rfl,rfl⟩:b=b'/\c=c':=by rw [hp] at hp';simpa using hp'
   refine⟨b,_,rfl,fun j y hj=>?_⟩
   rw [uC] at hj
   have hlt:=(qD.1 hj).1
   have hu:=qA (l:=vs) (by rw [hl];exact hlt)
   obtain⟨g1,g2⟩:=hr _ _ _ hj hu
   exact⟨g1,_,by rw [kB0 _ b _ _ _ (0,0) hh,uG];exact hu,g2⟩
 |el h hk=>
   obtain⟨he,h1,hv⟩:=Rel.el' hx
   obtain⟨b,c,hp,rfl⟩:=hv _ _ _ h
   rcases hi.body _ _ _ h with⟨hn,rfl⟩|⟨b',cap,cur,hp',hh,g1,g2,g3,g4,g5⟩
   ·simp at hk
   ·obtain⟨rfl,rfl⟩:b=b'/\c=cap:=by rw [hp] at hp';simpa using hp'
    refine⟨b,_,rfl,fun q y hq=>?_⟩
    rw [uC] at hq
    obtain⟨q1,u,q2,q3⟩:=g5 _ _ _ _ hk hq
    exact⟨q1,u,by rw [kB0 _ b _ _ _ (0,0) hh,Nat.add_assoc];exact q2,.pure q3⟩
def ovw:List AV->Nat->List AV->List AV
 |cs,_,[]=>cs
 |[],_,_::_=>[]
 |_::cs,0,n::ns=>n::ovw cs 0 ns
 |c::cs,k+1,n::ns=>c::ovw cs k (n::ns)
theorem eF:∀(cs:List AV) (k:Nat) (ns:List AV),(ovw cs k ns).length=cs.length
 |cs,_,[]=>by cases cs <;> rfl
 |[],_,_::_=>rfl
 |_::cs,0,_::ns=>by simp [ovw,eF cs 0 ns]
 |_::cs,k+1,n::ns=>by simp [ovw,eF cs k (n::ns)]
theorem gS:∀(cs:List AV) (k:Nat) (ns:List AV) (j:Nat),k+ns.length<=cs.length->(ovw cs k ns)[j]?=if k<=j/\j<k+ns.length then ns[j-k]? else cs[j]?
 |cs,k,[],j,_=>by
  rw [if_neg (by simp only [List.length_nil];omega)]
  cases cs <;> rfl
 |[],_,_::_,_,h=>by simp at h
 |c::cs,0,n::ns,0,h=>by simp [ovw]
 |c::cs,0,n::ns,j+1,h=>by
  have:=gS cs 0 ns j (by simp at h ⊢;omega)
  simp only [ovw,uS,this,qS]
  by_cases e:j<ns.length
  ·rw [if_pos (by omega),if_pos (by omega)]
   rfl
  ·rw [if_neg (by omega),if_neg (by omega)]
 |c::cs,k+1,n::ns,0,h=>by simp [ovw]
 |c::cs,k+1,n::ns,j+1,h=>by
  have:=gS cs k (n::ns) j (by simp at h ⊢;omega)
  simp only [ovw,uS,this]
  by_cases e:k<=j/\j<k+(n::ns).length
  ·rw [if_pos e,if_pos (by omega),show j+1-(k+1)=j-k by omega]
  ·rw [if_neg e,if_neg (by omega)]
def AV.cells:AV->List AV
 | .agg cs=>cs
 |x=>[x]
theorem jj {W:World}{F:Nat->Prop}{μ:Mu}{σ:Sto}{x:AV}{v:Value}(h:Rel W F μ σ x v)(h1:∀y∈x.cells,y.one=true):v.cells.toList.length=x.cells.length/\∀(j:Nat) (y:AV) (u:Value),x.cells[j]?=some y->v.cells.toList[j]?=some u->y.one=true/\Rel W F μ σ y u:=by
 cases x with
 |agg cs=>
  obtain⟨vs,rfl,hl,g1,hr⟩:=h.agg'
  exact⟨by simpa [Value.cells,AV.cells] using hl,fun j y u hj hu=>⟨g1 j y hj,hr j y u hj (by simpa [Value.cells] using hu)⟩⟩
 |_=>
  have hv:=h.one (h1 _ (by simp [AV.cells]))
  have e:v.cells.toList=[v]:=by
   cases v <;> first|rfl|(simp [Value.oneCell'] at hv;done)
  rw [e]
  refine⟨rfl,fun j y u hj hu=>?_⟩
  cases j with
  |zero=>
   obtain rfl:=qB hj
   obtain rfl:=qB hu
   exact⟨h1 _ (by simp [AV.cells]),h⟩
  |succ j=>simp [AV.cells] at hj
theorem fY {W:World}{b off j:Nat}:(⟨b,off,none⟩:Addr).add j=⟨b,off+j,none⟩:=by
 unfold Addr.add
 split <;> simp_all
section
variable {P:Program} {N:Nat} {o:Oper} {s:St}
def ldA (ti:TI)(cs:List AV):Option AV:=cond ti.k.ag (cond (Nat.ble ti.n cs.length) (some (.agg (cs.take ti.n))) none) cs.head?
theorem gI {t:TypeId}{ti:TI}{p:Operand}{cs:List AV}{l:List Nat}{r:AV}(ho:o.op = .load t p)(ht:aB P t ti)(hp:CA s.σ (s.ev p) cs l)(hr:ldA ti cs=some r):ax P N o s ⟨r,[],l⟩:=by
 refine az l _ fun s' W F μ a h1 h2 hs=>?_
 have ep:=hs.ev p
 rw [h1 p (by rw [ho];simp [Op.operands])] at ep
 obtain⟨b,off,hv,hc⟩:=(hp.congr h2).cells hs.inv ep
 unfold ldA at hr
 cases hag:ti.k.ag with
 |true=>
  rw [hag,cond_true] at hr
  cases hle:Nat.ble ti.n cs.length with
  |false=>rw [hle] at hr;cases hr
  |true=>
   have hn:ti.n<=cs.length:=qW hle
   rw [hle,cond_true] at hr
   obtain rfl:=qB hr
   let f:Nat->Value:=fun j=>(W.cell? ⟨b,off+j,none⟩).getD undef
   have get:∀(j:Nat) (y:AV),cs[j]?=some y->W.cell? ⟨b,off+j,none⟩=some (f j)/\y.one=true/\Rel W F μ s'.σ y (f j):=fun j y hj=>by
    obtain⟨g1,u,g2,g3⟩:=hc j y hj
    have:f j=u:=by simp only [f,g2];rfl
    exact⟨by rw [this];exact g2,g1,by rw [this];exact g3⟩
   have hrun:(loadCells ⟨b,off,none⟩ ti.n).run P W = .ok ((List.range ti.n).map f).toArray W:=run_loadCells W _ ti.n f fun j hj=>by
    rw [fY (W:=W)]
    exact (get j _ (qA (by omega))).1
   refine⟨.agg ((List.range ti.n).map f).toArray,?_,.agg _ _ ?_ (fun j x hj=>?_) (fun j x v hj hv'=>?_)⟩
   ·simp only [execOp,ho,hv,Instr.loadAt,Instr.sureAddr,loadVar,kA2,kA3,kA1,ht.agg,hag,if_true,ht.size,hrun]
   ·simp;omega
   ·rw [uF] at hj
    split at hj
    ·exact (get j x hj).2.1
    ·cases hj
   ·rw [uF] at hj
    split at hj
    ·rename_i hlt
     have:f j=v:=by simpa [hlt] using hv'
     rw [<- this]
     exact (get j x hj).2.2
    ·cases hj
 |false=>
  rw [hag,cond_false,List.head?_eq_getElem?] at hr
  obtain⟨g1,u,g2,g3⟩:=hc 0 _ hr
  refine⟨u,?_,g3⟩
  have hrun:(load ⟨b,off,none⟩).run P W = .ok u W:=by simp [load,Sem.run,show W.cell? ⟨b,off,none⟩=some u from g2]
  simp only [execOp,ho,hv,Instr.loadAt,Instr.sureAddr,loadVar,kA2,kA3,kA1,ht.agg,hag,Bool.false_eq_true,if_false,hrun]
def ue (off:Nat):AV->Option AV
 | .ro cs=>some (.ro (cs.drop off))
 | .own id ep o=>some (.own id ep (o+off))
 | .el id ep k j=>some (.el id ep k (j+off))
 |_=>none
theorem xJ {W:World}{F:Nat->Prop}{μ:Mu}{σ:Sto}{x y:AV}{v:Value}{off:Nat}(hx:Rel W F μ σ x v)(hy:ue off x=some y){a:Addr}(hv:v = .pointer (some a)):Rel W F μ σ y (.pointer (some (a.add off))):=by
 subst hv
 cases x <;> simp only [ue,qU,reduceCtorEq] at hy
 all_goals subst hy
 ·generalize hq:Value.pointer (some a)=q at hx
  cases hx.ro' with
  |ro cs b o cell hF hb h1 hr hw=>
   obtain rfl:a=⟨b,o,none⟩:=by simpa using hq
   rw [fY (W:=W)]
   refine .pure (.ro _ b (o+off) (fun j=>cell (off+j)) hF hb (fun j x hj=>?_) (fun j x hj=>?_) (fun j x hj=>?_))
   ·rw [uC] at hj;exact h1 _ _ hj
   ·rw [uC] at hj;exact hr _ _ hj
   ·rw [uC] at hj;rw [Nat.add_assoc];exact hw _ _ hj
 ·obtain⟨he,h1,h⟩:=Rel.own' hx
  refine .own _ _ _ _ he rfl fun bd hbd=>?_
  obtain⟨b,c,hp,e⟩:=h bd hbd
  injection e with e
  injection e with e
  rw [e]
  exact⟨b,c,hp,by rw [fY (W:=W)]⟩
 ·obtain⟨he,h1,h⟩:=Rel.elG hx
  refine .el _ _ _ _ _ he rfl fun bd m len hbd hL=>?_
  obtain⟨b,c,hp,e⟩:=h bd m len hbd hL
  injection e with e
  injection e with e
  rw [e]
  exact⟨b,c,hp,by rw [fY (W:=W),Nat.add_assoc]⟩
theorem tl {x:Operand}{cs:List AV}{l:List Nat}(ho:o.op = .nilCheck x)(hx:CA s.σ (s.ev x) cs l):ax P N o s ⟨s.ev x,[],l⟩:=by
 refine az l _ fun s' W F μ a h1 h2 hs=>?_
 have ex:=hs.ev x
 rw [h1 x (by rw [ho];simp [Op.operands])] at ex
 obtain⟨b,off,hv,_⟩:=(hx.congr h2).cells hs.inv ex
 exact⟨_,by simp only [execOp,ho,hv,kA3],hv ▸ ex⟩
theorem qe {x:Operand}{f:FuncId}{fs cs:List AV}(ho:o.op = .nilCheck x)(hx:s.ev x = .fn f fs cs):ax P N o s ⟨s.ev x,[],[]⟩:=by
 refine az [] _ fun s' W F μ a h1 h2 hs=>?_
 have ex:=hs.ev x
 rw [h1 x (by rw [ho];simp [Op.operands])] at ex
 have ex':=ex
 rw [hx] at ex'
 obtain⟨_,_,hv,_⟩:=ex'.fn'
 exact⟨_,by simp only [execOp,ho,hv,kA3],hv ▸ ex⟩
theorem gD {t f:Nat}{ti:TI}{fs:List (Nat × Nat)}{p:Operand}{ft off:Nat}{fi:TI}{cs:List AV}{l:List Nat}{r:AV}(ho:o.op = .fieldAddr t p f)(ht:aB P t ti)(hk:ti.k = .strct fs)(hf:fs[f]?=some (ft,off))(hft:aB P ft fi)(hn:(fi.n == 0)=false)
  (hp:CA s.σ (s.ev p) cs l) (hr:ue off (s.ev p)=some r):ax P N o s ⟨r,[],l⟩:=by
 refine az l _ fun s' W F μ a h1 h2 hs=>?_
 have ep:=hs.ev p
 rw [h1 p (by rw [ho];simp [Op.operands])] at ep
 obtain⟨b,o',hv,_⟩:=(hp.congr h2).cells hs.inv ep
 refine⟨_,?_,xJ ep hr hv⟩
 obtain⟨fs',hu,hm⟩:=ht.strct hk
 obtain⟨fd,hfd,h3,h4⟩:∃fd,fs'[f]?=some fd/\fd.type=ft/\fd.offset=off:=by
  rw [<- hm,qF] at hf
  cases hq:fs'.toList[f]? with
  |none=>rw [hq] at hf;cases hf
  |some fd=>
   rw [hq] at hf
   simp only [Option.map_some,qU,vC] at hf
   exact⟨fd,by simpa using hq,hf⟩
 have hn':¬fi.n=0:=by simpa using hn
 have hz:(sizeOf fd.type).run P W = .ok fi.n W:=by rw [h3];exact hft.size W
 simp only [execOp,ho,Instr.fieldAt,kA2,kA9 hu,kA1,hfd,hv,Instr.sureAddr,kA3,fieldPlace,hz,hn',if_false,h4]
theorem pC {t n e k:Nat}{ti ei:TI}{x i:Operand}{kd:IntKind}{cs:List AV}{l:List Nat}{r:AV}(ho:o.op = .indexAddr t x i)(ht:aB P t ti)(hk:ti.k = .arr n e)(he:aB P e ei)(hi:s.ev i = .i kd (k:Int))(hlt:k<n)
  (hp:CA s.σ (s.ev x) cs l) (hr:ue (k*ei.n) (s.ev x)=some r):ax P N o s ⟨r,[],l⟩:=by
 refine az l _ fun s' W F μ a h1 h2 hs=>?_
 have ep:=hs.ev x
 rw [h1 x (by rw [ho];simp [Op.operands])] at ep
 have ei':=hs.ev i
 rw [h1 i (by rw [ho];simp [Op.operands]),hi] at ei'
 obtain⟨b,o',hv,_⟩:=(hp.congr h2).cells hs.inv ep
 refine⟨_,?_,xJ ep hr hv⟩
 have hcond:(0:Int)<=(k:Int)/\(k:Int)<(n:Int):=by omega
 simp only [execOp,ho,Instr.indexAt,hv,ei'.i',asIntOf,kA2,kA3,kA1,kA9 (ht.array hk),Instr.sureAddr,if_pos hcond,he.size,vQ]
def sL (ti:TI)(off:Nat)(cs:List AV):Option AV:=cond ti.k.ag (cond (Nat.ble (off+ti.n) cs.length) (some (.agg ((cs.drop off).take ti.n))) none) cs[off]?
theorem kE {t:Nat}{ti:TI}(ht:aB P t ti){W:World}{F:Nat->Prop}{μ:Mu}{σ:Sto}{cs:List AV}{vs:List Value}(hl:vs.length=cs.length)(h1:∀(j:Nat) (x:AV),cs[j]?=some x->x.one=true)
  (hp:∀(j:Nat) (x:AV) (v:Value),cs[j]?=some x->vs[j]?=some v->Rel W F μ σ x v) {off:Nat} {r:AV} (hr:sL ti off cs=some r):∃v,(part t vs.toArray off).run P W = .ok v W/\Rel W F μ σ r v:=by
 unfold sL at hr
 cases hag:ti.k.ag with
 |true=>
  rw [hag,cond_true] at hr
  cases hle:Nat.ble (off+ti.n) cs.length with
  |false=>rw [hle] at hr;cases hr
  |true=>
   have hn:off+ti.n<=cs.length:=qW hle
   rw [hle,cond_true] at hr
   obtain rfl:=qB hr
   have he:vs.toArray.extract off (off+ti.n)=((vs.drop off).take ti.n).toArray:=by
    apply Array.toList_inj.1
    simp
   refine⟨.agg ((vs.drop off).take ti.n).toArray,?_,.agg _ _ (by simp [hl]) (fun j x hj=>?_) (fun j x v hj hv=>?_)⟩
   ·simp only [part,kA2,ht.agg,hag,kA1,if_true,ht.size,kA3,he]
   ·rw [uF,uC] at hj
    split at hj
    ·exact h1 _ _ hj
    ·cases hj
   ·rw [uF,uC] at hj hv
    split at hj
    ·rename_i hlt
     rw [if_pos hlt] at hv
     exact hp _ _ _ hj hv
    ·cases hj
 |false=>
  rw [hag,cond_false] at hr
  obtain⟨v,hv⟩:∃v,vs[off]?=some v:=⟨_,qA (by have:=(qD.1 hr).1;omega)⟩
  refine⟨v,?_,hp _ _ _ hr hv⟩
  simp only [part,kA2,ht.agg,hag,kA1,Bool.false_eq_true,if_false,uG,hv,kA3]
theorem y8 {t f:Nat}{ti:TI}{fs:List (Nat × Nat)}{x:Operand}{ft off:Nat}{fi:TI}{cs:List AV}{r:AV}(ho:o.op = .field t x f)(ht:aB P t ti)(hk:ti.k = .strct fs)(hf:fs[f]?=some (ft,off))(hft:aB P ft fi)
  (hx:s.ev x = .agg cs) (hr:sL fi off cs=some r):ax P N o s ⟨r,[],[]⟩:=by
 refine az [] _ fun s' W F μ a h1 h2 hs=>?_
 have ex:=hs.ev x
 rw [h1 x (by rw [ho];simp [Op.operands]),hx] at ex
 obtain⟨vs,hv,hl,g1,g2⟩:=ex.agg'
 obtain⟨v,hrun,hrel⟩:=kE hft (W:=W) hl g1 g2 hr
 obtain⟨fs',hu,hm⟩:=ht.strct hk
 obtain⟨fd,hfd,h3,h4⟩:∃fd,fs'[f]?=some fd/\fd.type=ft/\fd.offset=off:=by
  rw [<- hm,qF] at hf
  cases hq:fs'.toList[f]? with
  |none=>rw [hq] at hf;cases hf
  |some fd=>
   rw [hq] at hf
   simp only [Option.map_some,qU,vC] at hf
   exact⟨fd,by simpa using hq,hf⟩
 refine⟨v,?_,hrel⟩
 rw [<- h3,<- h4] at hrun
 simp only [execOp,ho,Instr.field,kA2,kA9 hu,kA1,hfd,hv,asAgg,kA3,hrun]
theorem f9 {id:Nat}{bd:aE}{r:AV}(rd:List Nat) (h:∀ (s':St) W F μ a,(∀ y ∈ o.op.operands.toList,s'.ev y = s.ev y) -> (∀ i ∈ rd,s'.σ i = s.σ i) -> s'.σ id = s.σ id -> RS N W F μ s' a ->
   ∃(v:Value) (cs:List Value) (t c:Nat),(execOp a.eval o).run P W = .ok (.value v) (W.alloc (.cells cs.toArray t)) /\
    ∀μ' σ',Stp W F μ s'.σ (W.alloc (.cells cs.toArray t)) F μ' σ'->σ' id=⟨(s.σ id).ep+1,some bd⟩->μ' id=some (W.heap.size,c) ->
     aM (W.alloc (.cells cs.toArray t)) F μ' σ' (some (W.heap.size,c)) bd/\Rel (W.alloc (.cells cs.toArray t)) F μ' σ' r v) :
  ax P N o s ⟨r,[(id,⟨(s.σ id).ep+1,some bd⟩)],rd⟩:=by
 intro s' h1 h2 h3 W F μ a hr K Q hK
 have hid:s'.σ id=s.σ id:=h3 (id,⟨(s.σ id).ep+1,some bd⟩) (by simp)
 obtain⟨v,cs,t,c,hrun,hgo⟩:=h s' W F μ a h1 h2 hid hr
 have hk:Kp (fun b=>(s'.σ id).body.isSome=true/\∃c,μ id=some (b,c)) W (W.alloc (.cells cs.toArray t)):=(Kp.refl _ W).alloc _
 have hσ:up1 s'.σ id ⟨(s.σ id).ep+1,some bd⟩ id=⟨(s.σ id).ep+1,some bd⟩:=by rw [bi,if_pos rfl]
 have hμ:upm μ id (some (W.heap.size,c)) id=some (W.heap.size,c):=by rw [dE,if_pos rfl]
 obtain⟨hs,hi⟩:=cy hr.inv id (some (W.heap.size,c)) ((s.σ id).ep+1) bd hk (fun b c' e=>by
   have e':W.heap.size=b:=by simp only [qU,vC] at e;exact e.1
   subst e'
   exact⟨by simp,.inl (qJ _)⟩) (.inl (by rw [hid];omega)) (fun hs=>(hgo _ _ hs hσ hμ).1)
 unfold Oper.wp
 rw [hrun]
 exact hK _ F _ _ (hr.put hs hi (hgo _ _ hs hσ hμ).2) hs
theorem mm (t:Nat)(cs:Array Value)(W:World):(newRow t cs).run P W = .ok ⟨W.heap.size,0,none⟩ (W.alloc (.cells cs t)):=rfl
theorem zk {t:Nat}{x:Operand}{cs:List AV}{id:Nat}(ho:o.op = .box t x)(hx:(s.ev x).cells = cs)(h1:cs.all AV.one = true) :
  ax P N o s ⟨.own id ((s.σ id).ep+1) 0,[(id,⟨(s.σ id).ep+1,some (.box t cs)⟩)],[]⟩:=by
 refine f9 [] fun s' W F μ a g1 g2 hid hs=>?_
 have ex:=hs.ev x
 rw [g1 x (by rw [ho];simp [Op.operands])] at ex
 rw [qV] at h1
 obtain⟨hl,hp⟩:=jj ex (by rw [hx];exact h1)
 rw [hx] at hl hp
 refine⟨.pointer (some ⟨W.heap.size,0,none⟩),(a.eval x).cells.toList,t,0,?_,fun μ' σ' hst hσ hμ=>⟨⟨W.heap.size,0,_,rfl,kA5 W _,hl,fun j y v hj hv=>⟨(hp j y v hj hv).1,(hp j y v hj hv).2.stp hs.inv hst⟩⟩,?_⟩⟩
 ·have e:(a.eval x).cells.toList.toArray=(a.eval x).cells:=by simp
  simp only [execOp,ho,Instr.box,newVar,kA2,mm,kA1,kA3,e]
 ·exact .own id _ 0 _ (by rw [hσ];exact qJ _) rfl fun bd hbd=>⟨W.heap.size,0,hμ,rfl⟩
theorem sA {t:Nat}{ti:TI}{id:Nat}(ho:o.op = .alloc t)(ht:aB P t ti):ax P N o s ⟨.own id ((s.σ id).ep+1) 0,[(id,⟨(s.σ id).ep+1,some (.box t ti.z)⟩)],[]⟩:=by
 refine f9 [] fun s' W F μ a g1 g2 hid hs=>?_
 obtain⟨z,hz,hzs⟩:=ht.zero W
 refine⟨.pointer (some ⟨W.heap.size,0,none⟩),z.cells.toList,t,0,?_,fun μ' σ' hst hσ hμ=>⟨⟨W.heap.size,0,_,rfl,kA5 W _,(da (W:=W) (F:=F) hzs).1,fun j y v hj hv=>?_⟩,?_⟩⟩
 ·have e:z.cells.toList.toArray=z.cells:=by simp
  simp only [execOp,ho,Instr.alloc,hz,newVar,kA2,mm,kA1,kA3,e]
 ·have:=(da (W:=W.alloc (.cells z.cells.toList.toArray t)) (F:=F) hzs).2 j y v hj hv
  exact⟨this.2,.pure this.1⟩
 ·exact .own id _ 0 _ (by rw [hσ];exact qJ _) rfl fun bd hbd=>⟨W.heap.size,0,hμ,rfl⟩
end
def AV.pu1:AV->Bool
 | .b _ | .i _ _ | .u _ | .y _ | .s _ | .raw _ | .sl _ | .ro _=>true
 |_=>false
theorem kD {W:World}{F:Nat->Prop}{μ:Mu}{σ:Sto}{x:AV}{v:Value}(h:x.pu1=true)(hx:Rel W F μ σ x v):au W F x v:=by
 cases hx with
 |pure h=>exact h
 |_=>simp [AV.pu1] at h
section
variable {P:Program} {N:Nat} {o:Oper} {s:St}
theorem kO {t:Nat}{ti:TI}(ht:aB P t ti){b off ty:Nat}{cur:Array Value}{v:Value}{W:World}(hh:W.heap[b]?=some (.cells cur ty (0,0)))(hn:v.cells.size=ti.n)(hfit:off+ti.n<=cur.size)(h1:∀u∈v.cells.toList,u.oneCell'=true) :
  (storeVar t ⟨b,off,none⟩ v).run P W = .ok () (W.setRow b (cur.toList.take off++v.cells.toList++cur.toList.drop (off+ti.n)).toArray):=by
 have h:=run_storeCells_at P b off ty v.cells.toList 0 cur W hh (by simp only [Nat.add_zero,qL,hn];exact hfit) h1
 simp only [Nat.add_zero,qL,hn] at h
 simp only [storeVar,kA2,ht.size,kA1,hn,ne_eq,not_true_eq_false,if_false,h]
theorem nl {t ty id ep off:Nat}{ti:TI}{p x:Operand}{cs ns:List AV}(ho:o.op = .store t p x)(ht:aB P t ti)(hp:s.ev p = .own id ep off)(hid:s.σ id = ⟨ep,some (.box ty cs)⟩)(hx:(s.ev x).cells = ns)(h1:ns.all AV.one = true)
  (hn:ns.length=ti.n) (hfit:off+ti.n<=cs.length):ax P N o s ⟨.tup [],[(id,⟨ep,some (.box ty (ovw cs off ns))⟩)],[]⟩:=by
 intro s' g1 g2 g3 W F μ a hr K Q hK
 have hid':s'.σ id=⟨ep,some (.box ty cs)⟩:=(g3 (id,⟨ep,some (.box ty (ovw cs off ns))⟩) (by simp)).trans hid
 have ep':=hr.ev p
 rw [g1 p (by rw [ho];simp [Op.operands]),hp] at ep'
 obtain⟨_,_,hv⟩:=Rel.own' ep'
 obtain⟨b,c,hm,hv⟩:=hv _ hid'
 obtain⟨b',c',vs,hm',hh,hl,hrel⟩:=hr.inv.body _ _ _ hid'
 obtain⟨rfl,rfl⟩:b=b'/\c=c':=by rw [hm] at hm';simpa using hm'
 have ex:=hr.ev x
 rw [g1 x (by rw [ho];simp [Op.operands])] at ex
 rw [qV] at h1
 obtain⟨hxl,hxp⟩:=jj ex (by rw [hx];exact h1)
 rw [hx] at hxl hxp
 have hsz:(a.eval x).cells.size=ti.n:=by rw [<- qL,hxl,hn]
 have hone:∀u∈(a.eval x).cells.toList,u.oneCell'=true:=fun u hu=>by
  obtain⟨j,hj⟩:=List.getElem?_of_mem hu
  obtain⟨y,hy⟩:∃y,ns[j]?=some y:=⟨_,qA (by have:=(qD.1 hj).1;omega)⟩
  have:=hxp j y u hy hj
  exact this.2.one this.1
 have hrun:=kO ht (P:=P) hh hsz (by simp only [uH];omega) hone (off:=off)
 generalize hnew:(vs.toArray.toList.take off++(a.eval x).cells.toList++vs.toArray.toList.drop (off+ti.n))=new at hrun
 have hnl:new.length=cs.length:=by
  rw [<- hnew]
  simp only [qK,vG,vW,hxl,hn,hl]
  omega
 have hget:∀j,new[j]?=if off<=j/\j<off+ns.length then (a.eval x).cells.toList[j-off]? else vs[j]?:=fun j=>by
  rw [<- hnew,hn]
  simp only [uK]
  rw [vZ,vG,hl,kB3 (by omega)]
  by_cases e1:j<off
  ·rw [if_pos e1,if_neg (by omega),uF,if_pos e1]
  ·rw [if_neg e1,vZ,hxl,hn]
   by_cases e2:j-off<ti.n
   ·rw [if_pos e2,if_pos (by omega)]
   ·rw [if_neg e2,if_neg (by omega),uC]
    congr 1
    omega
 have hk:Kp (fun b=>(s'.σ id).body.isSome=true/\∃c,μ id=some (b,c)) W (W.setRow b new.toArray):=(Kp.refl _ W).setRow' (by exact⟨by rw [hid'];rfl,c,hm⟩) _
 obtain⟨hs,hi⟩ := cy hr.inv id (μ id) ep (.box ty (ovw cs off ns)) hk (fun b1 c1 e=>by
   rw [hm] at e
   obtain⟨rfl,rfl⟩:b=b1/\c=c1:=by simpa using e
   exact⟨by simpa using (hr.inv.apart b ⟨id,ep,_,c,hid',hm⟩).1,.inr ⟨by rw [hid'];rfl,c,hm⟩⟩)
  (.inr ⟨by rw [hid'],_,by rw [hid'],by simp [aE.sh,eF],rfl⟩) (fun hs=>by
   refine⟨b,c,new,hm,kA8 W b _ _ _ _ hh,by rw [eF];exact hnl,fun j y v hj hv'=>?_⟩
   rw [gS _ _ _ _ (by omega)] at hj
   rw [hget] at hv'
   split at hj
   ·rename_i e
    rw [if_pos e] at hv'
    have:=hxp _ _ _ hj hv'
    exact⟨this.1,this.2.stp hr.inv hs⟩
   ·rename_i e
    rw [if_neg e] at hv'
    have:=hrel _ _ _ hj hv'
    exact⟨this.1,this.2.stp hr.inv hs⟩)
 unfold Oper.wp
 have hrun':(execOp a.eval o).run P W = .ok .skip (W.setRow b new.toArray):=by
  simp only [execOp,ho,Instr.storeAt,Instr.sureAddr,hv,kA2,kA3,kA1,hrun]
 rw [hrun']
 exact hK _ F _ _ (hr.put hs hi (.pure (.tup [] [] rfl (by simp)))) hs
theorem lr {t ty m id ep k j:Nat}{ti:TI}{p x:Operand}{els:List (List AV)}{cs ns:List AV}(ho:o.op = .store t p x)(ht:aB P t ti)(hp:s.ev p = .el id ep k j)(hid:s.σ id = ⟨ep,some (.row ty m els)⟩)(hk:els[k]? = some cs)(hx:(s.ev x).cells = ns)
  (h1:ns.all AV.one=true) (h2:ns.all AV.pu1=true) (hn:ns.length=ti.n) (hfit:j+ti.n<=cs.length):ax P N o s ⟨.tup [],[(id,⟨ep,some (.row ty m (els.set k (ovw cs j ns)))⟩)],[]⟩:=by
 intro s' g1 g2 g3 W F μ a hr K Q hK
 have hid':s'.σ id=⟨ep,some (.row ty m els)⟩:=(g3 (id,⟨ep,some (.row ty m (els.set k (ovw cs j ns)))⟩) (by simp)).trans hid
 have ep':=hr.ev p
 rw [g1 p (by rw [ho];simp [Op.operands]),hp] at ep'
 obtain⟨_,_,hv⟩:=Rel.el' ep'
 obtain⟨b,c,hm,hv⟩:=hv _ _ _ hid'
 have hklt:k<els.length:=(qD.1 hk).1
 rcases hr.inv.body _ _ _ hid' with⟨_,rfl⟩|⟨b',cap,cur,hm',hh,q1,q2,q3,q4,q5⟩
 ·simp at hk
 obtain⟨rfl,rfl⟩:b=b'/\c=cap:=by rw [hm] at hm';simpa using hm'
 have ex:=hr.ev x
 rw [g1 x (by rw [ho];simp [Op.operands])] at ex
 rw [qV] at h1 h2
 obtain⟨hxl,hxp⟩:=jj ex (by rw [hx];exact h1)
 rw [hx] at hxl hxp
 have hsz:(a.eval x).cells.size=ti.n:=by rw [<- qL,hxl,hn]
 have hone:∀u∈(a.eval x).cells.toList,u.oneCell'=true:=fun u hu=>by
  obtain⟨i,hi⟩:=List.getElem?_of_mem hu
  obtain⟨y,hy⟩:∃y,ns[i]?=some y:=⟨_,qA (by have:=(qD.1 hi).1;omega)⟩
  have:=hxp i y u hy hi
  exact this.2.one this.1
 have hcm:=q4 k cs hk
 have hkm:k*m+m<=c*m:=by
  have h0:=Nat.mul_le_mul_right m (show k+1<=c by omega)
  rwa [Nat.add_mul,Nat.one_mul] at h0
 have hrun:=kO ht (P:=P) hh hsz (by omega) hone (off:=k*m+j)
 generalize hnew:(cur.toList.take (k*m+j)++(a.eval x).cells.toList++cur.toList.drop (k*m+j+ti.n))=new at hrun
 have hnl:new.length=cur.size:=by
  rw [<- hnew]
  simp only [qK,vG,vW,hxl,hn,qL]
  omega
 have hget:∀i,new[i]?=if k*m+j<=i/\i<k*m+j+ns.length then (a.eval x).cells.toList[i-(k*m+j)]? else cur[i]?:=fun i=>by
  rw [<- hnew,hn]
  simp only [uK]
  rw [vZ,vG,qL,kB3 (by omega)]
  by_cases e1:i<k*m+j
  ·rw [if_pos e1,if_neg (by omega),uF,if_pos e1,vO]
  ·rw [if_neg e1,vZ,hxl,hn]
   by_cases e2:i-(k*m+j)<ti.n
   ·rw [if_pos e2,if_pos (by omega)]
   ·rw [if_neg e2,if_neg (by omega),uC,vO]
    congr 1
    omega
 have hkp:Kp (fun b=>(s'.σ id).body.isSome=true/\∃c,μ id=some (b,c)) W (W.setRow b new.toArray):=(Kp.refl _ W).setRow' (by exact⟨by rw [hid'];rfl,c,hm⟩) _
 have sep:∀(k' i:Nat),k'≠k->i<m->¬(k*m+j<=k'*m+i/\k'*m+i<k*m+j+ns.length):=fun k' i hne hi h=>by
  rcases Nat.lt_or_ge k' k with h'|h'
  ·have:=Nat.mul_le_mul_right m (show k'+1<=k by omega)
   rw [Nat.add_mul,Nat.one_mul] at this
   omega
  ·have:=Nat.mul_le_mul_right m (show k+1<=k' by omega)
   rw [Nat.add_mul,Nat.one_mul] at this
   omega
 obtain⟨hs,hi⟩ := cy hr.inv id (μ id) ep (.row ty m (els.set k (ovw cs j ns))) hkp (fun b1 c1 e=>by
   rw [hm] at e
   obtain⟨rfl,rfl⟩:b=b1/\c=c1:=by simpa using e
   exact⟨by simpa using (hr.inv.apart b ⟨id,ep,_,c,hid',hm⟩).1,.inr ⟨by rw [hid'];rfl,c,hm⟩⟩)
  (.inr ⟨by rw [hid'],_,by rw [hid'],by simp [aE.sh],rfl⟩) (fun hs=>by
   refine .inr ⟨b,c,new.toArray,hm,kA8 W b _ _ _ _ hh,by simpa using q1,q2,by simpa [hnl] using q3,fun k' cs' hk'=>?_,fun k' cs' i y hk' hi'=>?_⟩
   ·rw [List.getElem?_set] at hk'
    split at hk'
    ·simp only [hklt,if_true,qU] at hk'
     rw [<- hk',eF]
     exact hcm
    ·exact q4 k' cs' hk'
   ·rw [List.getElem?_set] at hk'
    rw [uG,hget]
    split at hk'
    ·rename_i e
     subst e
     simp only [hklt,if_true,qU] at hk'
     subst hk'
     rw [gS _ _ _ _ (by omega)] at hi'
     split at hi'
     ·rename_i e
      rw [if_pos (by omega),show k*m+i-(k*m+j)=i-j by omega]
      obtain⟨v,hv'⟩:∃v,(a.eval x).cells.toList[i-j]?=some v:=⟨_,qA (by have:=(qD.1 hi').1;omega)⟩
      have:=hxp _ _ _ hi' hv'
      exact⟨this.1,v,hv',(kD (h2 y (qN hi')) this.2).stp hr.inv hs⟩
     ·rename_i e
      rw [if_neg (by omega)]
      obtain⟨r1,v,r2,r3⟩:=q5 k cs i y hk hi'
      exact⟨r1,v,r2,r3.stp hr.inv hs⟩
    ·rename_i e
     have hlt:i<m:=by have:=(qD.1 hi').1;rw [q4 k' cs' hk'] at this;exact this
     rw [if_neg (sep k' i (fun h=>e h.symm) hlt)]
     obtain⟨r1,v,r2,r3⟩:=q5 k' cs' i y hk' hi'
     exact⟨r1,v,r2,r3.stp hr.inv hs⟩)
 unfold Oper.wp
 have hrun':(execOp a.eval o).run P W = .ok .skip (W.setRow b new.toArray):=by
  simp only [execOp,ho,Instr.storeAt,Instr.sureAddr,hv,kA2,kA3,kA1,hrun]
 rw [hrun']
 exact hK _ F _ _ (hr.put hs hi (.pure (.tup [] [] rfl (by simp)))) hs
theorem b9 {W:World}{F:Nat->Prop}{els:List (List AV)}{v:Value}(h:au W F (.sl els) v):∃A c,v = .slice A els.length c/\els.length<=c/\c<=maxLen:=by
 cases h with
 |sl _ A c m b off cell hc hm _ _ _ _ _=>exact⟨A,c,rfl,hc,hm⟩
theorem gb {W:World}{F:Nat->Prop}{μ:Mu}{σ:Sto}(hi:Inv W F μ σ){id ep off n t m:Nat}{els:List (List AV)}{v:Value}(h:Rel W F μ σ (.row id ep off n) v)(hid:σ id=⟨ep,some (.row t m els)⟩) :
  off+n<=els.length/\((v = .slice none 0 0/\els=[]/\μ id=none)\/∃b cap,μ id=some (b,cap)/\v = .slice (some ⟨b,off*m,none⟩) n (cap-off)/\els.length<=cap/\cap<=maxLen):=by
 obtain⟨_,_,hv⟩:=Rel.row' h
 obtain⟨h1,h2⟩:=hv _ _ _ hid
 refine⟨h1,?_⟩
 rcases hi.body _ _ _ hid with⟨hn,rfl⟩|⟨b,cap,cur,hp,hh,q1,q2,_⟩
 ·rw [hn] at h2
  exact .inl ⟨h2,rfl,hn⟩
 ·rw [hp] at h2
  exact .inr ⟨b,cap,hp,h2,q1,q2⟩
theorem EY {c:Call}{x y:Operand}{t u:Nat}{k k':IntKind}{m n:Int}{b:Builtin}{r:Int}(ho:o.op = .call c)(hc:c.callee = .builtin b)(ha:c.args = #[x,y])(hat:c.argTypes = #[t,u])(hx:s.ev x = .i k m)(hy:s.ev y = .i k' n)
  (hb:(b = .max/\r=max m n)\/(b = .min/\r=min m n)):ax P N o s ⟨.i k r,[],[]⟩:=by
 refine az [] _ fun s' W F μ a g1 g2 hs=>⟨.int k r,?_,.pure (.i k r)⟩
 have opers:o.op.operands.toList=[x,y]:=by rw [ho];simp [Op.operands,Call.operands,hc,ha]
 have ex:=hs.ev x
 rw [g1 x (by rw [opers];simp),hx] at ex
 have ey:=hs.ev y
 rw [g1 y (by rw [opers];simp),hy] at ey
 rcases hb with⟨rfl,rfl⟩|⟨rfl,rfl⟩
 ·have e:(if n>m then n else m)=max m n:=by split <;> omega
  simp only [execOp,ho,resolve,hc,ha,hat,List.map_toArray,vE,List.map_nil,kA2,kA3,kA1,invoke,builtin,ex.i',ey.i',run_max_int2,e]
 ·have e:(if n<m then n else m)=min m n:=by split <;> omega
  simp only [execOp,ho,resolve,hc,ha,hat,List.map_toArray,vE,List.map_nil,kA2,kA3,kA1,invoke,builtin,ex.i',ey.i',run_min_int2,e]
theorem mK {c:Call}{x:Operand}{t e:Nat}{ti:TI}{n:Nat}(ho:o.op = .call c)(hc:c.callee = .builtin .len)(ha:c.args = #[x])(hat:c.argTypes = #[t])(ht:aB P t ti)(hk:ti.k = .slice e)(rd:List Nat)
  (hx:∀(s':St) W F μ v,(∀id∈rd,s'.σ id=s.σ id)->Inv W F μ s'.σ->Rel W F μ s'.σ (s.ev x) v->∃A k,v = .slice A n k):ax P N o s ⟨.i .i64 n,[],rd⟩:=by
 refine az rd _ fun s' W F μ a h1 h2 hs=>⟨.int .i64 n,?_,.pure (.i _ _)⟩
 have ex:=hs.ev x
 rw [h1 x (by rw [ho];simp [Op.operands,Call.operands,hc,ha])] at ex
 obtain⟨A,k,hv⟩:=hx s' W F μ _ h2 hs.inv ex
 simp only [execOp,ho,resolve,hc,ha,hat,List.map_toArray,vE,List.map_nil,kA2,kA3,kA1,invoke,builtin,Builtin.len_,hv,uG,List.getElem?_cons_zero,kA9 (ht.slice hk),goInt]
theorem Gz {c:Call}{x:Operand}{t e:Nat}{ti:TI}{els:List (List AV)}(ho:o.op = .call c)(hc:c.callee = .builtin .len)(ha:c.args = #[x])(hat:c.argTypes = #[t])(ht:aB P t ti)(hk:ti.k = .slice e)(hx:s.ev x = .sl els):ax P N o s ⟨.i .i64 els.length,[],[]⟩ :=
 mK ho hc ha hat ht hk [] fun s' W F μ v _ _ hv=>by
  rw [hx] at hv
  obtain⟨A,k,e,_⟩:=b9 hv.sl'
  exact⟨A,k,e⟩
theorem DF {c:Call}{x:Operand}{t e id ep off n ty m:Nat}{els:List (List AV)}{ti:TI}(ho:o.op = .call c)(hc:c.callee = .builtin .len)(ha:c.args = #[x])(hat:c.argTypes = #[t])(ht:aB P t ti)(hk:ti.k = .slice e)(hx:s.ev x = .row id ep off n)(hid:s.σ id=⟨ep,some (.row ty m els)⟩):ax P N o s ⟨.i .i64 n,[],[id]⟩ :=
 mK ho hc ha hat ht hk [id] fun s' W F μ v hσ hi hv=>by
  rw [hx] at hv
  obtain⟨h1,⟨rfl,rfl,_⟩|⟨b,cap,_,e,_⟩⟩:=gb hi hv ((hσ id (by simp)).trans hid)
  ·obtain rfl:n=0:=by simp at h1;omega
   exact⟨_,_,rfl⟩
  ·exact⟨_,_,e⟩
theorem Ea {c:Call}{x:Operand}{t e:Nat}{ti:TI}(ho:o.op = .call c)(hc:c.callee = .builtin .len)(ha:c.args = #[x])(hat:c.argTypes = #[t])(ht:aB P t ti)(hk:ti.k = .slice e)(hx:s.ev x = .raw (.slice none 0 0)):ax P N o s ⟨.i .i64 ((0:Nat):Int),[],[]⟩ :=
 mK ho hc ha hat ht hk [] fun s' W F μ v _ _ hv=>by
  rw [hx] at hv
  exact⟨_,_,hv.raw'⟩
theorem CB {c:Call}{x:Operand}{t:Nat}{ti:TI}{l:List UInt8}(ho:o.op = .call c)(hc:c.callee = .builtin .len)(ha:c.args = #[x])(hat:c.argTypes = #[t])(ht:aB P t ti)(hk:ti.k = .str)(hx:s.ev x = .s l):ax P N o s ⟨.i .i64 l.length,[],[]⟩:=by
 refine az [] _ fun s' W F μ a h1 h2 hs=>⟨.int .i64 l.length,?_,.pure (.i _ _)⟩
 have ex:=hs.ev x
 rw [h1 x (by rw [ho];simp [Op.operands,Call.operands,hc,ha]),hx] at ex
 simp only [execOp,ho,resolve,hc,ha,hat,List.map_toArray,vE,List.map_nil,kA2,kA3,kA1,invoke,builtin,Builtin.len_,ex.s',uG,List.getElem?_cons_zero,kA9 (ht.str hk),goInt]
 rfl
theorem aq {t e k:Nat}{ti ei:TI}{x i:Operand}{kd:IntKind}{els:List (List AV)}{cs:List AV}(ho:o.op = .indexAddr t x i)(ht:aB P t ti)(hk:ti.k = .slice e)(he:aB P e ei)(hx:s.ev x = .sl els)(hi:s.ev i = .i kd (k:Int))(hcs:els[k]?=some cs)
  (hn:cs.length=ei.n):ax P N o s ⟨.ro cs,[],[]⟩:=by
 refine az [] _ fun s' W F μ a h1 h2 hs=>?_
 have ex:=hs.ev x
 rw [h1 x (by rw [ho];simp [Op.operands]),hx] at ex
 have ei':=hs.ev i
 rw [h1 i (by rw [ho];simp [Op.operands]),hi] at ei'
 have hlt:k<els.length:=(qD.1 hcs).1
 generalize hq:a.eval x=q at ex
 cases ex.sl' with
 |sl _ A c m b off cell hc hm hA hl hone hr hw=>
  obtain⟨rfl,hF,hb⟩:=hA (by omega)
  have hm':=hl k cs hcs
  refine⟨.pointer (some ⟨b,off+k*m,none⟩),?_,.pure (.ro cs b (off+k*m) (cell k) hF hb (fun j x hj=>hone k cs j x hcs hj) (fun j x hj=>hr k cs j x hcs hj) (fun j x hj=>by rw [Nat.add_assoc];exact hw k cs j x hcs hj))⟩
  have hcond:(0:Int)<=(k:Int)/\(k:Int)<(els.length:Int):=by omega
  simp only [execOp,ho,Instr.indexAt,hq,ei'.i',asIntOf,kA2,kA3,kA1,kA9 (ht.slice hk),if_pos hcond,he.size,vQ,fY (W:=W),<- hn,hm']
theorem oK {t e k id ep off n ty m:Nat}{ti ei:TI}{x i:Operand}{kd:IntKind}{els:List (List AV)}(ho:o.op = .indexAddr t x i)(ht:aB P t ti)(hk:ti.k = .slice e)(he:aB P e ei)(hx:s.ev x = .row id ep off n)(hid:s.σ id = ⟨ep,some (.row ty m els)⟩)(hi:s.ev i = .i kd (k:Int))(hlt:k < n)
  (hn:m=ei.n):ax P N o s ⟨.el id ep (off+k) 0,[],[id]⟩:=by
 refine az [id] _ fun s' W F μ a h1 h2 hs=>?_
 have hid':=(h2 id (by simp)).trans hid
 have ex:=hs.ev x
 rw [h1 x (by rw [ho];simp [Op.operands]),hx] at ex
 have ei':=hs.ev i
 rw [h1 i (by rw [ho];simp [Op.operands]),hi] at ei'
 obtain⟨q1,⟨_,rfl,_⟩|⟨b,cap,hm,hv,_⟩⟩:=gb hs.inv ex hid'
 ·simp at q1;omega
 ·have hcond:(0:Int)<=(k:Int)/\(k:Int)<(n:Int):=by omega
  refine⟨.pointer (some ⟨b,off*m+k*ei.n,none⟩),?_,.el id ep (off+k) 0 _ (by rw [hid'];exact qJ _) rfl fun bd' m' l' hbd hL=>⟨b,cap,hm,?_⟩⟩
  ·simp only [execOp,ho,Instr.indexAt,hv,ei'.i',asIntOf,kA2,kA3,kA1,kA9 (ht.slice hk),if_pos hcond,he.size,vQ,fY (W:=W)]
  ·rw [hid'] at hbd
   obtain rfl:aE.row ty m els=bd':=by simpa using hbd
   obtain⟨rfl,_⟩:m=m'/\els.length=l':=by simpa [aE.rowL] using hL
   rw [<- hn,Nat.add_zero,Nat.add_mul]
theorem ff {t k:Nat}{ti:TI}{x i:Operand}{kd:IntKind}{l:List UInt8}{c:UInt8}(ho:o.op = .index t x i)(ht:aB P t ti)(hk:ti.k = .str)(hx:s.ev x = .s l)(hi:s.ev i = .i kd (k:Int))(hc:l[k]?=some c):ax P N o s ⟨.y c,[],[]⟩:=by
 refine az [] _ fun s' W F μ a h1 h2 hs=>⟨.int .u8 c.toNat,?_,.pure (.y c)⟩
 have ex:=hs.ev x
 rw [h1 x (by rw [ho];simp [Op.operands]),hx] at ex
 have ei':=hs.ev i
 rw [h1 i (by rw [ho];simp [Op.operands]),hi] at ei'
 have hb:(⟨l.toArray⟩:ByteArray)[k]?=some c:=by
  obtain⟨hlt,e⟩:=qD.1 hc
  rw [getElem?_pos (⟨l.toArray⟩:ByteArray) k (by simpa [ByteArray.size] using hlt)]
  exact congrArg some e
 have h0:(0:Int)<=(k:Int):=by omega
 simp only [execOp,ho,Instr.index,ex.s',ei'.i',asIntOf,kA2,kA3,kA1,kA9 (ht.str hk),h0,if_true,vQ,hb]
end
section
variable {P:Program} {N:Nat} {o:Oper} {s:St}
inductive Bd (s:St)(d:Nat):Option Operand->Nat->Prop where
 |no:Bd s d none d
 |at_ {x:Operand} {kd:IntKind} {k:Nat} (h:s.ev x = .i kd (k:Int)):Bd s d (some x) k
theorem pO {s s':St}{d n:Nat}{x:Option Operand}(h:Bd s d x n)(hs:∀y,x=some y->s'.ev y=s.ev y){W:World}{F:Nat->Prop}{μ:Mu}{a:Act}(hr:RS N W F μ s' a) :
  (x=none/\n=d)\/∃y kd,x=some y/\a.eval y = .int kd (n:Int):=by
 cases h with
 |no=>exact .inl ⟨rfl,rfl⟩
 |@at_ y kd k h=>
  have:=hr.ev y
  rw [hs y rfl,h] at this
  exact .inr ⟨y,kd,rfl,this.i'⟩
theorem g9 {W:World}{l h c:Nat}{lo hi:Option Value}(hlo:(lo=none/\l=0)\/∃kd,lo=some (.int kd (l:Int))){len:Nat}(hhi:(hi=none/\h=len)\/∃kd,hi=some (.int kd (h:Int)))(h1:l<=h)(h2:h<=c)(b:Bool) :
  (Instr.sliceBounds b len c lo hi none).run P W = .ok (l,h,c) W:=by
 have e1:(0:Int)<=(l:Int)/\(l:Int)<=(h:Int):=by omega
 have e2:(0:Int)<=(h:Int)/\(h:Int)<=(c:Int):=by omega
 rcases hlo with⟨rfl,rfl⟩|⟨kd,rfl⟩ <;> rcases hhi with⟨rfl,rfl⟩|⟨kd',rfl⟩
 ·simp only [Instr.sliceBounds,kA2,kA3,kA1]
 ·simp only [Instr.sliceBounds,Instr.sliceBound,asIntOf,kA2,kA3,kA1,if_pos e2,vQ]
 ·simp only [Instr.sliceBounds,Instr.sliceBound,asIntOf,kA2,kA3,kA1,if_pos e1,vQ]
 ·simp only [Instr.sliceBounds,Instr.sliceBound,asIntOf,kA2,kA3,kA1,if_pos e1,if_pos e2,vQ]
theorem pA {t e id ep n ty m h : Nat} {ti ei : TI} {x : Operand} {lo hi : Option Operand} {els : List (List AV)} (ho : o.op = .slice t x lo hi none) (ht : aB P t ti) (hk : ti.k = .slice e) (he : aB P e ei) (hx : s.ev x = .row id ep 0 n) (hid : s.σ id = ⟨ep, some (.row ty m els)⟩)
    (hlo:Bd s 0 lo 0) (hhi:Bd s n hi h) (h2:h<=n):ax P N o s ⟨.row id ep 0 h,[],[id]⟩:=by
  refine az [id] _ fun s' W F μ a g1 g2 hs=>?_
  have hid':=(g2 id (by simp)).trans hid
  have ex:=hs.ev x
  rw [g1 x (by rw [ho];simp [Op.operands]),hx] at ex
  have r1:=pO hlo (fun y hy=>g1 y (by rw [ho,hy];simp [Op.operands])) hs
  have r2:=pO hhi (fun y hy=>g1 y (by rw [ho,hy];simp [Op.operands])) hs
  obtain⟨q1,q⟩:=gb hs.inv ex hid'
  have form:∃A c,a.eval x = .slice A n c/\n<=c/\(∀v,v = .slice A h c->Rel W F μ s'.σ (.row id ep 0 h) v):=by
    rcases q with⟨e,e2,e3⟩|⟨b,cap,hm,hv,q2,q3⟩
    · subst e2
      obtain rfl:n=0:=by simp at q1;omega
      obtain rfl:h=0:=by omega
      refine⟨none,0,e,qJ _,fun v hv=>.row id ep 0 0 v (by rw [hid'];exact qJ _) (by rw [hv];rfl) fun bd' m' l' hbd hL=>?_⟩
      exact⟨qR _,by rw [e3];exact hv⟩
    · refine⟨_,cap-0,hv,by omega,fun v hv=>.row id ep 0 h v (by rw [hid'];exact qJ _) (by rw [hv];rfl) fun bd' m' l' hbd hL=>?_⟩
      rw [hid'] at hbd
      obtain rfl:aE.row ty m els=bd':=by simpa using hbd
      obtain⟨rfl,rfl⟩:m=m'/\els.length=l':=by simpa [aE.rowL] using hL
      exact⟨by omega,by rw [hm];exact hv⟩
  obtain⟨A,c,hv,hc,hrel⟩:=form
  have hrun:=g9 (P:=P) (W:=W) (l:=0) (h:=h) (c:=c) (len:=n) (lo:=lo.map a.eval) (hi:=hi.map a.eval)
    (by rcases r1 with ⟨e, e'⟩ | ⟨y, kd, e, e'⟩
        · exact .inl ⟨by rw [e];rfl,rfl⟩
        · exact .inr ⟨kd,by rw [e,Option.map_some,e']⟩)
    (by rcases r2 with ⟨e, e'⟩ | ⟨y, kd, e, e'⟩
        · exact .inl ⟨by rw [e];rfl,e'⟩
        · exact .inr ⟨kd,by rw [e,Option.map_some,e']⟩) (qR _) (by omega) true
  have hA:(if c=0 then A else A.map (·.add (0*ei.n)))=A:=by
    split
    · rfl
    · cases A with
      |none=>rfl
      |some ad=>simp [Addr.add]
  refine⟨.slice A h c,?_,hrel _ rfl⟩
  simp only [execOp,ho,Instr.sliceAt,Instr.slice,hv,kA2,kA3,kA1,kA9 (ht.slice hk),Option.map_none,hrun,he.size,hA,Nat.sub_zero]
theorem oZ {t e:Nat}{ti ei:TI}{x:Operand}{lo hi:Option Operand}(ho:o.op = .slice t x lo hi none)(ht:aB P t ti)(hk:ti.k = .slice e)(he:aB P e ei)(hx:s.ev x = .raw (.slice none 0 0))(hlo:Bd s 0 lo 0)(hhi:Bd s 0 hi 0):ax P N o s ⟨.raw (.slice none 0 0),[],[]⟩:=by
  refine az [] _ fun s' W F μ a g1 g2 hs=>?_
  have ex:=hs.ev x
  rw [g1 x (by rw [ho];simp [Op.operands]),hx] at ex
  have r1:=pO hlo (fun y hy=>g1 y (by rw [ho,hy];simp [Op.operands])) hs
  have r2:=pO hhi (fun y hy=>g1 y (by rw [ho,hy];simp [Op.operands])) hs
  have hrun:=g9 (P:=P) (W:=W) (l:=0) (h:=0) (c:=0) (len:=0) (lo:=lo.map a.eval) (hi:=hi.map a.eval)
    (by rcases r1 with ⟨e, e'⟩ | ⟨y, kd, e, e'⟩
        · exact .inl ⟨by rw [e];rfl,rfl⟩
        · exact .inr ⟨kd,by rw [e,Option.map_some,e']⟩)
    (by rcases r2 with ⟨e, e'⟩ | ⟨y, kd, e, e'⟩
        · exact .inl ⟨by rw [e];rfl,rfl⟩
        · exact .inr ⟨kd,by rw [e,Option.map_some,e']⟩) (qJ _) (qJ _) true
  refine⟨.slice none 0 0,?_,.pure (.raw _)⟩
  simp only [execOp,ho,Instr.sliceAt,Instr.slice,ex.raw',kA2,kA3,kA1,kA9 (ht.slice hk),Option.map_none,hrun,he.size,if_true,Nat.sub_zero]
def bQ (n:Int):UInt64:=UInt64.ofNat (IntKind.u64.wrap n).toNat
def Gt (n:Int):UInt8:=UInt8.ofNat (IntKind.u8.wrap n).toNat
theorem eB (n:Int):((bQ n).toNat:Int)=IntKind.u64.wrap n:=by
 unfold bQ
 have h:0<=IntKind.u64.wrap n/\IntKind.u64.wrap n<18446744073709551616:=by rw [IntKind.wrap_u64];omega
 rw [UInt64.toNat_ofNat']
 omega
theorem B5 (n:Int):((Gt n).toNat:Int)=IntKind.u8.wrap n:=by
 unfold Gt
 have h:0<=IntKind.u8.wrap n/\IntKind.u8.wrap n<256:=by rw [IntKind.wrap_u8'];omega
 rw [UInt8.toNat_ofNat']
 omega
def cvI (k:IntKind)(n:Int):AV :=
 match k with
 | .u64=>.u (bQ n)
 | .u8=>.y (Gt n)
 |k=>.i k (k.wrap n)
def cvA (k:IntKind):AV->Option AV
 | .i _ n=>some (cvI k n)
 | .u x=>match k with
  | .u64=>some (.u x)
  | .u8=>some (.y x.toUInt8)
  |k=>some (.i k (k.wrap x.toNat))
 | .y x=>match k with
  | .u64=>some (.u x.toUInt64)
  | .u8=>some (.y x)
  |k=>some (.i k (k.wrap x.toNat))
 |_=>none
theorem EH {W:World}{F:Nat->Prop}(k:IntKind)(n:Int):au W F (cvI k n) (.int k (k.wrap n)):=by
 cases k with
 |u64=>rw [<- eB];exact .u _
 |u8=>rw [<- B5];exact .y _
 |_=>exact .i _ _
theorem Df {W:World}{F:Nat->Prop}{μ:Mu}{σ:Sto}{k:IntKind}{x r:AV}{v:Value}(h:cvA k x=some r)(hx:Rel W F μ σ x v):∃k' n,v = .int k' n/\au W F r (.int k (k.wrap n)):=by
 cases x with
 |i k' n=>
  obtain rfl:=qB h
  exact⟨k',n,hx.i',EH k n⟩
 |u x=>
  refine⟨.u64,x.toNat,hx.u',?_⟩
  cases k with
  |u64=>
   obtain rfl:=qB h
   rw [oG]
   exact .u x
  |u8=>
   obtain rfl:=qB h
   rw [q9]
   exact .y x.toUInt8
  |_=>obtain rfl:=qB h;exact .i _ _
 |y x=>
  refine⟨.u8,x.toNat,hx.y',?_⟩
  cases k with
  |u64=>
   obtain rfl:=qB h
   rw [th]
   exact .u x.toUInt64
  |u8=>
   obtain rfl:=qB h
   rw [q9,UInt8.ofNat_toNat]
   exact .y x
  |_=>obtain rfl:=qB h;exact .i _ _
 |_=>simp [cvA] at h
theorem CI {t u:Nat}{ti ui:TI}{k:IntKind}{x:Operand}{r:AV}(ho:o.op = .convert t u x)(ht:aB P t ti)(hu:aB P u ui)(hk:ui.k = .int k)(h:cvA k (s.ev x)=some r):ax P N o s ⟨r,[],[]⟩:=by
 refine az [] _ fun s' W F μ a g1 g2 hs=>?_
 have ex:=hs.ev x
 rw [g1 x (by rw [ho];simp [Op.operands])] at ex
 obtain⟨k',n,hv,hr⟩:=Df h ex
 obtain⟨_,d,_,_,hd,_⟩:=ht.h
 refine⟨_,?_,.pure hr⟩
 simp only [execOp,ho,hv,convert,kA2,kA3,kA1,kA9 hd,kA9 (hu.int hk),Conv.intToInt]
def fP (l:List UInt8):List (List AV):=l.map fun c=>[.y c]
theorem Fk {t u e:Nat}{ti ui ei:TI}{x:Operand}{l:List UInt8}(ho:o.op = .convert t u x)(ht:aB P t ti)(hk:ti.k = .slice e)(he:aB P e ei)(hke:ei.k = .int .u8)(hu:aB P u ui)(hku:ui.k = .str)(hx:s.ev x = .sl (fP l)):ax P N o s ⟨.s l,[],[]⟩:=by
 refine az [] _ fun s' W F μ a g1 g2 hs=>?_
 have ex:=hs.ev x
 rw [g1 x (by rw [ho];simp [Op.operands]),hx] at ex
 have hsl:bb u8R W F l (a.eval x):=by
  generalize a.eval x=q at ex
  cases ex.sl' with
  |sl _ A c m b off cell hc hm hA hl hone hr hw=>
   have hlen:(fP l).length=l.length:=by simp [fP]
   rw [hlen] at hc hA ⊢
   refine⟨A,c,rfl,hc,hm,fun hp=>?_⟩
   obtain⟨rfl,hF,hb⟩:=hA hp
   have get:∀(j:Nat) (y:UInt8),l[j]?=some y->(fP l)[j]?=some [.y y]:=fun j y hj=>by simp [fP,hj]
   have m1:m=1:=by
    obtain⟨y,hy⟩:∃y,l[0]?=some y:=⟨_,qA hp⟩
    exact (hl 0 _ (get 0 y hy)).symm
   refine⟨b,off,rfl,hF,hb,l.map (fun y=>.int .u8 y.toNat),?_,fun j u hu=>?_⟩
   ·clear hA hw hr hl hone get hc hs g1 g2 ex hx hlen
    induction l with
    |nil=>rfl
    |cons y l ih=>
     cases l with
     |nil=>exact⟨_,[],rfl,rfl,rfl⟩
     |cons z l=>exact⟨[.int .u8 y.toNat],_,rfl,rfl,ih (by simp)⟩
   ·rw [qF] at hu
    cases hy:l[j]? with
    |none=>rw [hy] at hu;cases hu
    |some y=>
     rw [hy] at hu
     obtain rfl:Value.int .u8 (y.toNat:Int)=u:=by simpa using hu
     have h1:=hw j _ 0 _ (get j y hy) rfl
     have h2:=hr j _ 0 _ (get j y hy) rfl
     rw [m1,Nat.mul_one,Nat.add_zero] at h1
     generalize cell j 0=q at h1 h2
     cases h2
     exact h1
 refine⟨.string ⟨l.toArray⟩,?_,.pure (.s l)⟩
 simp only [execOp,ho,kA2,rD (ht.slice hk) (he.int hke) (hu.str hku) hsl,kA1,kA3]
 rfl
end
section
variable {P:Program} {N:Nat} {o:Oper} {s:St}
def kP (place:Nat->Option (Nat × Nat)):List AV->List (Nat × AV)->Option (List AV)
 |cs,[]=>some cs
 |cs,p::l=>match place p.1 with
  |some (off,size)=>cond (Nat.beq p.2.cells.length size && Nat.ble (off+size) cs.length && p.2.cells.all AV.one) (kP place (ovw cs off p.2.cells) l) none
  |none=>none
theorem sK (off:Nat):∀(vs:List Value) (cs:Array Value) (k:Nat),off+k+vs.length<=cs.size ->
  (vs.zipIdx k).foldl (fun cs p=>cs.setIfInBounds (off+p.2) p.1) cs=((cs.toList.take (off+k))++vs++cs.toList.drop (off+k+vs.length)).toArray
 |[],cs,k,h=>by simp
 |v::vs,cs,k,h=>by
  rw [List.zipIdx_cons,uY,sK off vs _ (k+1) (by simp at h ⊢;omega)]
  apply Array.toList_inj.1
  simp only [Array.toList_setIfInBounds,qS]
  simp only [qS] at h
  have hlt:off+k<cs.toList.length:=by simp;omega
  rw [List.take_set,List.drop_set,if_pos (by omega),show off+(k+1)=off+k+1 by omega,List.take_add_one,qA hlt]
  have e:(cs.toList.take (off+k)++(some cs.toList[off+k]).toList).set (off+k) v=cs.toList.take (off+k)++[v]:=by
   rw [List.set_append,vG,kB3 (by omega),if_neg (by omega)]
   simp
  rw [e,show off+k+1+vs.length=off+k+(vs.length+1) by omega]
  simp
theorem kh {place : Nat -> Option (Nat × Nat)} {W : World} {F : Nat -> Prop} {μ : Mu} {σ : Sto} : ∀ (ps : List (Nat × AV)) (qs : List (Nat × Value)) (cs : List AV) (vs : Array Value) (r : List AV), ps.map (·.1) = qs.map (·.1) ->
    (∀(j:Nat) (p:Nat × AV) (q:Nat × Value),ps[j]?=some p->qs[j]?=some q->Rel W F μ σ p.2 q.2)->vs.size=cs.length->(∀(j:Nat) (x:AV) (v:Value),cs[j]?=some x->vs[j]?=some v->x.one=true/\Rel W F μ σ x v) ->
    kP place cs ps=some r->∃us:Array Value,Instr.fill place vs qs=some us/\us.size=r.length/\∀(j:Nat) (x:AV) (v:Value),r[j]?=some x->us[j]?=some v->x.one=true/\Rel W F μ σ x v
  |[],qs,cs,vs,r,hm,hr,hl,hc,h=>by
    obtain rfl:qs=[]:=by simpa using hm.symm
    obtain rfl:=qB h
    exact⟨vs,rfl,hl,hc⟩
  |p::ps,[],cs,vs,r,hm,hr,hl,hc,h=>by simp at hm
  |p::ps,q::qs,cs,vs,r,hm,hr,hl,hc,h=>by
    simp only [vE,List.cons.injEq] at hm
    simp only [kP] at h
    cases hp:place p.1 with
    |none=>rw [hp] at h;cases h
    |some os=>
      obtain⟨off,size⟩:=os
      rw [hp] at h
      simp only at h
      cases hb:(Nat.beq p.2.cells.length size && Nat.ble (off+size) cs.length && p.2.cells.all AV.one) with
      |false=>rw [hb] at h;cases h
      |true=>
        rw [hb,cond_true] at h
        simp only [qQ,qV] at hb
        obtain⟨⟨hb1,hb2⟩,hb3⟩:=hb
        have hb1:=qY hb1
        have hb2:=qW hb2
        obtain⟨hcl,hcr⟩:=jj (hr 0 p q rfl rfl) hb3
        have hqs:q.2.cells.size=size:=by rw [<- qL,hcl,hb1]
        have hfold:q.2.cells.zipIdx.foldl (fun cs (x:Value × Nat)=>cs.setIfInBounds (off+x.2) x.1) vs=(vs.toList.take off++q.2.cells.toList++vs.toList.drop (off+size)).toArray:=by
          have:=sK off q.2.cells.toList vs 0 (by rw [qL,hqs];omega)
          rw [Nat.add_zero,qL,hqs] at this
          rw [<- this,<- Array.foldl_toList,Array.toList_zipIdx]
        obtain⟨us,h1,h2,h3⟩:=kh ps qs (ovw cs off p.2.cells) (vs.toList.take off++q.2.cells.toList++vs.toList.drop (off+size)).toArray r hm.2 (fun j p q h1 h2=>hr (j+1) p q (by simpa using h1) (by simpa using h2))
          (by simp only [uH,qK,vG,vW,qL,eF,hqs];omega) (fun j x v hx hv=>by
            rw [gS _ _ _ _ (by omega)] at hx
            rw [uG,uK,vZ,vG,qL,kB3 (by omega)] at hv
            by_cases e1:j<off
            · rw [if_neg (by omega)] at hx
              rw [if_pos e1,uF,if_pos e1,vO] at hv
              exact hc j x v hx hv
            · rw [if_neg e1,vZ,qL,hqs] at hv
              by_cases e2:j-off<size
              · rw [if_pos (by omega)] at hx
                rw [if_pos e2] at hv
                exact hcr _ _ _ hx hv
              · rw [if_neg (by omega)] at hx
                rw [if_neg e2,uC,vO,show off+size+(j-off-size)=j by omega] at hv
                exact hc j x v hx hv) h
        refine⟨us,?_,h2,h3⟩
        obtain⟨i,v⟩:=q
        simp only at hm hqs hfold h1
        rw [Instr.fill,<- hm.1,hp]
        simp only
        rw [if_neg (by rw [hqs];simp;omega),hfold]
        exact h1
theorem ji {s':St}{W:World}{F:Nat->Prop}{μ:Mu}{a:Act}(hr:RS N W F μ s' a){parts:Array (Nat × Operand)}(hs:∀p∈parts.toList,s'.ev p.2=s.ev p.2) :
  (parts.toList.map fun p=>(p.1,s.ev p.2)).map (·.1)=(parts.map fun (p:Nat × Operand)=>(p.1,a.eval p.2)).toList.map (·.1) /\
  ∀(j:Nat) (p:Nat × AV) (q:Nat × Value),(parts.toList.map fun p=>(p.1,s.ev p.2))[j]?=some p->(parts.map fun (p:Nat × Operand)=>(p.1,a.eval p.2)).toList[j]?=some q->Rel W F μ s'.σ p.2 q.2:=by
 refine⟨by simp,fun j p q hp hq=>?_⟩
 rw [qF] at hp
 rw [Array.toList_map,qF] at hq
 cases hx:parts.toList[j]? with
 |none=>rw [hx] at hp;cases hp
 |some x=>
  rw [hx] at hp hq
  obtain rfl:=qB hp
  obtain rfl:=qB hq
  show Rel W F μ s'.σ (s.ev x.2) (a.eval x.2)
  rw [<- hs x (qN hx)]
  exact hr.ev x.2
def plS (T:TT)(fs:List (Nat × Nat))(i:Nat):Option (Nat × Nat) :=
 match fs[i]? with
 |some (ft,off)=>match dZ T ft with
  |some fi=>some (off,fi.n)
  |none=>none
 |none=>none
theorem lZ {T:TT}(hT:fW P T=true):∀(fs:List Field),(∀f∈fs,(dZ T f.type).isSome=true) ->
  ∃pl,fs.mapM (fun f=>(P.info? f.type).map fun i=>(f.offset,i.size))=some pl/\∀i,pl[i]?=plS T (fs.map fun f=>(f.type,f.offset)) i
 |[],_=>⟨[],rfl,fun i=>by simp [plS]⟩
 |f::fs,h=>by
  obtain⟨pl,h1,h2⟩:=lZ hT fs fun g hg=>h g (by simp [hg])
  obtain⟨ti,hti⟩:=vY.1 (h f (by simp))
  obtain⟨inf,d,z,g1,g2,g3,_⟩:=(aW hT hti).h
  refine⟨(f.offset,ti.n)::pl,by simp [h1,g1,g3],fun i=>?_⟩
  cases i with
  |zero=>simp [plS,hti]
  |succ i=>
   rw [uS,h2]
   simp [plS]
theorem zb {T : TT} (hT : fW P T = true) {t : Nat} {ti : TI} {fs : List (Nat × Nat)} {parts : Array (Nat × Operand)} {r : List AV} (ho : o.op = .build t parts) (ht : dZ T t = some ti) (hk : ti.k = .strct fs) (hf : fs.all (fun p => (dZ T p.1).isSome) = true)
    (hr:kP (plS T fs) ti.z (parts.toList.map fun p=>(p.1,s.ev p.2))=some r) (h1:r.all AV.one=true):ax P N o s ⟨.agg r,[],[]⟩:=by
  refine az [] _ fun s' W F μ a g1 g2 hs=>?_
  have hp:=ji (s:=s) hs (parts:=parts) fun p hp=>g1 p.2 (by rw [ho];simp only [Op.operands,vI];exact⟨p,hp,rfl⟩)
  obtain⟨inf,d,z,q1,q2,q3,q4,q5,q6,q7⟩:=(aW hT ht).h
  obtain⟨fs',hu,hm⟩:=(aW hT ht).strct hk
  have hz:=da (W:=W) (F:=F) q7
  obtain⟨us,k1,k2,k3⟩:=kh _ _ ti.z z.cells r hp.1 hp.2 (by rw [<- qL];exact hz.1) (fun j x v hx hv=>by
    have:=hz.2 j x v hx (by simpa using hv)
    exact⟨this.2,.pure this.1⟩) hr
  rw [qV] at hf h1
  obtain⟨pl,e1,e2⟩:=lZ hT fs'.toList fun f hfm=>by
    have:=hf (f.type,f.offset) (by rw [<- hm];exact qX (f:=fun f:Field=>(f.type,f.offset)) hfm)
    simpa using this
  have hb:P.built t (parts.map fun (p:Nat × Operand)=>(p.1,a.eval p.2)).toList=some us:=by
    have hpl:(fun i=>pl.toArray[i]?)=plS T fs:=by
      funext i
      rw [uG,e2,hm]
    simp only [Program.built,q1,hu,q6,e1]
    rw [hpl]
    exact k1
  refine⟨.agg us.toList.toArray,?_,.agg r us.toList (by simpa using k2) (fun j x hx=>h1 x (qN hx)) (fun j x v hx hv=>(k3 j x v hx (by simpa using hv)).2)⟩
  have e3:us.toList.toArray=us:=by simp
  simp only [execOp,ho,kA2,run_build W t _ us hb,kA1,kA3,e3]
theorem tK {id:Nat}{bd:aE}{r:AV}(rd l:List Nat) (h:∀ (s':St) W F μ a,(∀ y ∈ o.op.operands.toList,s'.ev y = s.ev y) -> (∀ i ∈ rd,s'.σ i = s.σ i) -> (∀ i ∈ l,s'.σ i = s.σ i) -> RS N W F μ s' a ->
   ∃(v:Value) (cs:List Value) (t c:Nat),(execOp a.eval o).run P W = .ok (.value v) (W.alloc (.cells cs.toArray t)) /\
    ∀F' μ' σ',Stp W F μ s'.σ (W.alloc (.cells cs.toArray t)) F' μ' σ'->(∀b,F b\/Beh μ s'.σ l b->F' b)->σ' id=⟨(s.σ id).ep+1,some bd⟩->μ' id=some (W.heap.size,c) ->
     aM (W.alloc (.cells cs.toArray t)) F' μ' σ' (some (W.heap.size,c)) bd/\Rel (W.alloc (.cells cs.toArray t)) F' μ' σ' r v) :
  ax P N o s ⟨r,eR s.σ l++[(id,⟨(s.σ id).ep+1,some bd⟩)],rd⟩:=by
 intro s' h1 h2 h3 W F μ a hr K Q hK
 have hid:s'.σ id=s.σ id:=h3 (id,⟨(s.σ id).ep+1,some bd⟩) (by simp)
 have hl:∀i∈l,s'.σ i=s.σ i:=fun i hi=>h3 (i,⟨(s.σ i).ep,none⟩) (vS _ (qX (f:=fun id=>(id,(⟨(s.σ id).ep,none⟩:SB))) hi))
 obtain⟨v,cs,t,c,hrun,hgo⟩:=h s' W F μ a h1 h2 hl hr
 obtain⟨hs0,hi0⟩:=hr.ext (Kp.refl No W) l rfl
 generalize hσ1:ups s'.σ (eR s'.σ l)=σ1 at hs0 hi0
 generalize hF1:(fun b=>(F b\/Beh μ s'.σ l b)\/(W.heap.size<=b/\b<W.heap.size))=F1 at hs0 hi0
 have hepid:(σ1 id).ep=(s.σ id).ep:=by
  rw [<- hσ1,sM]
  split
  ·rw [hid]
  ·rw [hid]
 have hk:Kp (fun b=>(σ1 id).body.isSome=true/\∃c,μ id=some (b,c)) W (W.alloc (.cells cs.toArray t)):=(Kp.refl _ W).alloc _
 have hσ:up1 σ1 id ⟨(s.σ id).ep+1,some bd⟩ id=⟨(s.σ id).ep+1,some bd⟩:=by rw [bi,if_pos rfl]
 have hμ:upm μ id (some (W.heap.size,c)) id=some (W.heap.size,c):=by rw [dE,if_pos rfl]
 have hF:∀b,F b\/Beh μ s'.σ l b->F1 b:=fun b hb=>by rw [<- hF1];exact .inl hb
 obtain⟨hs,hi⟩:=cy hi0 id (some (W.heap.size,c)) ((s.σ id).ep+1) bd hk (fun b c' e=>by
   have e':W.heap.size=b:=by simp only [qU,vC] at e;exact e.1
   subst e'
   exact⟨by simp,.inl (qJ _)⟩) (.inl (by rw [hepid];omega)) (fun hs=>(hgo _ _ _ (hs0.trans hs) hF hσ hμ).1)
 have hup:ups s'.σ (eR s.σ l++[(id,⟨(s.σ id).ep+1,some bd⟩)])=up1 σ1 id ⟨(s.σ id).ep+1,some bd⟩:=by
  have e:eR s.σ l=eR s'.σ l:=List.map_congr_left fun i hi=>by rw [hl i hi]
  rw [e,<- hσ1]
  have app:∀(a b:List (Nat × SB)) (τ:Sto),ups τ (a++b)=ups (ups τ a) b:=fun a=>by
   induction a with
   |nil=>exact fun _ _=>rfl
   |cons p a ih=>exact fun b τ=>ih b _
  rw [app]
  rfl
 unfold Oper.wp
 rw [hrun]
 refine hK _ F1 (upm μ id (some (W.heap.size,c))) _ ?_ ?_
 ·show RS N _ F1 _ ⟨eH N s'.ts o.dst r,ups s'.σ _⟩ _
  rw [hup]
  exact hr.put (hs0.trans hs) hi (hgo _ _ _ (hs0.trans hs) hF hσ hμ).2
 ·rw [hup]
  exact hs0.trans hs
structure dz (W:World)(F:Nat->Prop)(m:Nat)(els:List (List AV))(cells:List Value):Prop where
 hm:∀(k:Nat) (cs:List AV),els[k]?=some cs->cs.length=m
 n:cells.length=els.length*m
 r:∀(k:Nat) (cs:List AV) (j:Nat) (x:AV),els[k]?=some cs->cs[j]?=some x->x.one=true/\∃u,cells[k*m+j]?=some u/\au W F x u
theorem dz.nil (W:World)(F:Nat->Prop)(m:Nat):dz W F m [] []:=⟨fun k cs h=>by simp at h,by simp,fun k cs j x h=>by simp at h⟩
theorem dz.append {W:World}{F:Nat->Prop}{m:Nat}{a b:List (List AV)}{c d:List Value}(h:dz W F m a c)(k:dz W F m b d):dz W F m (a++b) (c++d):=by
 refine⟨fun i cs hi=>?_,by rw [qK,qK,h.n,k.n,Nat.add_mul],fun i cs j x hi hj=>?_⟩
 ·rw [vZ] at hi
  split at hi
  ·exact h.hm i cs hi
  ·exact k.hm _ cs hi
 ·rw [vZ] at hi
  split at hi
  ·rename_i hlt
   obtain⟨r1,u,r2,r3⟩:=h.r i cs j x hi hj
   exact⟨r1,u,by rw [List.getElem?_append_left (qD.1 r2).1];exact r2,r3⟩
  ·rename_i hlt
   obtain⟨r1,u,r2,r3⟩:=k.r _ cs j x hi hj
   have hle:a.length*m<=i*m:=Nat.mul_le_mul_right m (by omega)
   refine⟨r1,u,?_,r3⟩
   rw [List.getElem?_append_right (by rw [h.n];omega),h.n,<- r2]
   congr 1
   rw [Nat.sub_mul]
   omega
theorem dz.stp {W W':World}{F F':Nat->Prop}{μ μ':Mu}{σ σ':Sto}(hi:Inv W F μ σ)(hs:Stp W F μ σ W' F' μ' σ'){m:Nat}{els:List (List AV)}{cells:List Value}(h:dz W F m els cells):dz W' F' m els cells :=
 ⟨h.hm,h.n,fun k cs j x h1 h2=>by obtain⟨r1,u,r2,r3⟩:=h.r k cs j x h1 h2;exact⟨r1,u,r2,r3.stp hi hs⟩⟩
theorem dz.one {W:World}{F:Nat->Prop}{m:Nat}{els:List (List AV)}{cells:List Value}(h:dz W F m els cells)(hm:0<m):∀u∈cells,u.oneCell'=true:=by
 intro u hu
 obtain⟨i,hi⟩:=List.getElem?_of_mem hu
 have hlt:i<els.length*m:=by have:=(qD.1 hi).1;rw [h.n] at this;exact this
 have hk:i / m<els.length:=(Nat.div_lt_iff_lt_mul hm).2 hlt
 obtain⟨cs,hcs⟩:∃cs,els[i / m]?=some cs:=⟨_,qA hk⟩
 have hj:i % m<cs.length:=by rw [h.hm _ cs hcs];exact kB2 _ hm
 obtain⟨r1,u',r2,r3⟩:=h.r _ cs (i % m) _ hcs (qA hj)
 have e:i / m*m+i % m=i:=by rw [Nat.mul_comm];exact Nat.div_add_mod i m
 rw [e,hi] at r2
 obtain rfl:=qB r2
 exact r3.one r1
theorem dz.body {W:World}{F:Nat->Prop}{μ:Mu}{σ:Sto}{m t b cap:Nat}{els:List (List AV)}{cells:List Value}{cur:Array Value}(h:dz W F m els cells)(hh:W.heap[b]?=some (.cells cur t (0,0)))(h1:els.length<=cap)(h2:cap<=maxLen)(h3:cur.size=cap*m)
  (h4:cur.toList.take (els.length*m)=cells):aM W F μ σ (some (b,cap)) (.row t m els):=by
 refine .inr ⟨b,cap,cur,rfl,hh,h1,h2,h3,h.hm,fun k cs j x hk hj=>?_⟩
 obtain⟨r1,u,r2,r3⟩:=h.r k cs j x hk hj
 refine⟨r1,u,?_,r3⟩
 rw [<- h4,uF] at r2
 split at r2
 ·simpa using r2
 ·cases r2
theorem nC (l:List AV):∀(n i:Nat),i<n*l.length->(List.replicate n l).flatten[i]?=l[i % l.length]?
 |0,i,h=>by simp at h
 |n+1,i,h=>by
  rw [List.replicate_succ,uN,vZ]
  split
  ·rename_i hlt
   rw [Nat.mod_eq_of_lt hlt]
  ·rename_i hge
   rw [nC l n _ (by rw [Nat.add_mul,Nat.one_mul] at h;omega)]
   congr 1
   rw [Nat.mod_eq_sub_mod (a:=i) (by omega)]
theorem zn {els:List (List AV)}{m:Nat}(hm:∀cs∈els,cs.length=m):∀{k:Nat} {cs:List AV} {j:Nat} {x:AV},els[k]?=some cs->cs[j]?=some x->els.flatten[k*m+j]?=some x:=by
 induction els with
 |nil=>intro k cs j x h;simp at h
 |cons c els ih=>
  intro k cs j x h1 h2
  rw [uN]
  cases k with
  |zero=>
   obtain rfl:c=cs:=by simpa using h1
   rw [Nat.zero_mul,vN,List.getElem?_append_left (qD.1 h2).1]
   exact h2
  |succ k=>
   have hc:=hm c (by simp)
   rw [List.getElem?_append_right (by rw [hc,Nat.add_mul];omega),hc,show (k+1)*m+j-m=k*m+j by rw [Nat.add_mul];omega]
   exact ih (fun cs h=>hm cs (by simp [h])) (by simpa using h1) h2
theorem gm {els:List (List AV)}{m:Nat}(hm:∀cs∈els,cs.length=m):els.flatten.length=els.length*m:=by
 induction els with
 |nil=>simp
 |cons c els ih=>rw [uN,qK,ih fun cs h=>hm cs (by simp [h]),hm c (by simp),qS,Nat.add_mul];omega
theorem ow {t e len id : Nat} {ti ei : TI} {parts : Array (Nat × Operand)} {xs : List AV} {l : List Nat} {els : List (List AV)} (ho : o.op = .buildSlice t len parts) (ht : aB P t ti) (hk : ti.k = .slice e) (he : aB P e ei) (h0 : (ei.n == 0) = false) (hlen : 0 < len) (hbig : len * ei.n <= 16777216)
    (hz:FzL s.σ (parts.toList.map fun p=>s.ev p.2) xs l) (hf:kP (fun i=>some (i*ei.n,ei.n)) (List.replicate len ei.z).flatten ((parts.toList.map (·.1)).zip xs)=some els.flatten) (hl:els.length=len) (hm:els.all (fun cs=>Nat.beq cs.length ei.n)=true)
    (hpu:els.all (fun cs=>cs.all fun x=>x.one && x.pu1)=true):ax P N o s ⟨.row id ((s.σ id).ep+1) 0 len,eR s.σ l++[(id,⟨(s.σ id).ep+1,some (.row e ei.n els)⟩)],[]⟩:=by
  refine tK [] l fun s' W F μ a g1 g2 g3 hs=>?_
  have hz':=hz.congr g3
  have hn0:¬ei.n=0:=by simpa using h0
  obtain⟨inf,d,z,q1,q2,q3,q4,q5,q6,q7⟩:=he.h
  have hp:=ji (s:=s) hs (parts:=parts) fun p hp=>g1 p.2 (by rw [ho];simp only [Op.operands,vI];exact⟨p,hp,rfl⟩)
  -- the parts, frozen
  have hrel:=hz'.rel (W:=W) (F:=F) (μ:=μ) hs.inv (vs:=parts.toList.map fun p=>a.eval p.2) (by simp) (fun j x v hx hv=>by
    rw [qF] at hx hv
    cases hq:parts.toList[j]? with
    |none=>rw [hq] at hx;cases hx
    |some q=>
      rw [hq] at hx hv
      obtain rfl:=qB hx
      obtain rfl:=qB hv
      show Rel W F μ s'.σ (s.ev q.2) (a.eval q.2)
      rw [<- g1 q.2 (by rw [ho];simp only [Op.operands,vI];exact⟨q,qN hq,rfl⟩)]
      exact hs.ev q.2)
  have hzr:=da (W:=W) (F:=fun b=>F b\/Beh μ s'.σ l b) q7
  have hzl:ei.z.length=z.cells.size:=by rw [<- qL];exact hzr.1.symm
  have hzn:=he.zl
  have hms:(parts.toList.map (·.1)).length=xs.length:=by rw [hrel.1];simp
  obtain⟨us,k1,k2,k3⟩:=kh (W:=W) (F:=fun b=>F b\/Beh μ s'.σ l b) (μ:=μ) (σ:=s'.σ) ((parts.toList.map (·.1)).zip xs) (parts.map fun (p:Nat × Operand)=>(p.1,a.eval p.2)).toList (List.replicate len ei.z).flatten
    ((Array.range (len*ei.n)).map (z.cells[· % z.cells.size]!)) els.flatten (by rw [List.map_fst_zip (by omega)];simp) (fun j p q hp' hq'=>by
      rw [Array.toList_map,qF] at hq'
      obtain⟨y1,y2⟩:=p
      rw [List.getElem?_zip_eq_some] at hp'
      cases hx:parts.toList[j]? with
      |none=>rw [hx] at hq';cases hq'
      |some x=>
        rw [hx] at hq'
        obtain rfl:=qB hq'
        exact .pure (hrel.2 j _ _ hp'.2 (by rw [qF,hx];rfl))) (by rw [gm (m:=ei.n) (by intro cs hcs;rw [(List.mem_replicate.1 hcs).2];exact hzn)];simp) (fun j x v hx hv=>by
      have hj:j<len*ei.n:=by
        have:=(qD.1 hx).1
        rw [gm (m:=ei.n) (by intro cs hcs;rw [(List.mem_replicate.1 hcs).2];exact hzn)] at this
        simpa using this
      rw [nC _ _ _ (by rw [hzn];exact hj),hzn] at hx
      rw [Array.getElem?_map] at hv
      have:(Array.range (len*ei.n))[j]?=some j:=by simp [hj]
      rw [this] at hv
      have hlt:j % ei.n<z.cells.size:=by rw [<- hzl,hzn];exact kB2 _ (by omega)
      have hv':z.cells.toList[j % ei.n]?=some v:=by
        rw [vO,uL hlt]
        simp only [Option.map_some,<- hzl,hzn] at hv
        rw [getElem!_pos z.cells _ hlt] at hv
        exact hv
      have:=hzr.2 _ x v hx hv'
      exact⟨this.2,.pure this.1⟩) hf
  have hmm:∀cs∈els,cs.length=ei.n:=fun cs hcs=>qY (qV.1 hm cs hcs)
  have hrow:dz W (fun b=>F b\/Beh μ s'.σ l b) ei.n els us.toList:=by
    refine⟨fun k cs hk=>hmm cs (qN hk),by rw [qL,k2,gm hmm],fun k cs j x hk hj=>?_⟩
    have hx:=zn hmm hk hj
    obtain⟨v,hv⟩:∃v,us[k*ei.n+j]?=some v:=⟨_,uL (by rw [k2];exact (qD.1 hx).1)⟩
    obtain⟨r1,r2⟩:=k3 _ x v hx hv
    have:=qV.1 (qV.1 hpu cs (qN hk)) x (qN hj)
    rw [qQ] at this
    exact⟨r1,v,by simpa using hv,kD this.2 r2⟩
  have hpos:¬len*ei.n=0:=by
    have:=Nat.mul_pos hlen (show 0<ei.n by omega)
    omega
  have husz:us.size=len*ei.n:=by rw [k2,gm hmm,hl]
  refine⟨.slice (some ⟨W.heap.size,0,none⟩) len len,us.toList,e,len,?_,fun F' μ' σ' hst hF' hσ hμ=>⟨?_,?_⟩⟩
  · have e3:us.toList.toArray=us:=by simp
    have hrun:=run_buildSlice (P:=P) W t e len (parts.map fun (p:Nat × Operand)=>(p.1,a.eval p.2)) us inf z (ht.slice hk) q1 q6 (by rw [q3];omega) (by rw [q3];exact hpos) (by rw [q3];exact k1)
    simp only [execOp,ho,kA2,hrun,kA1,kA3,e3]
  · have hk2 : dz (W.alloc (.cells us.toList.toArray e)) F' ei.n els us.toList := by
      refine⟨hrow.hm,hrow.n,fun k cs j x h1 h2=>?_⟩
      obtain⟨r1,u,r2,r3⟩:=hrow.r k cs j x h1 h2
      exact⟨r1,u,r2,r3.keep (fun b hb hlt=>Below.heap_alloc _ _ _ hlt) fun b hb _=>hF' b hb⟩
    refine hk2.body (kA5 W _) (Nat.le_of_eq hl) ?_ (by simp [husz]) (by
      rw [vL]
      simp [husz,hl])
    have:len<=len*ei.n:=Nat.le_mul_of_pos_right len (by omega)
    unfold maxLen
    omega
  · refine .row id _ 0 len _ (by rw [hσ];exact qJ _) rfl fun bd' m' l' hbd hL=>?_
    rw [hσ] at hbd
    obtain rfl:aE.row e ei.n els=bd':=by simpa using hbd
    obtain⟨rfl,rfl⟩:ei.n=m'/\els.length=l':=by simpa [aE.rowL] using hL
    exact⟨by omega,by rw [hμ];simp⟩
end
theorem nT {W:World}{F:Nat -> Prop}{μ:Mu}{σ:Sto}(hi:Inv W F μ σ){id ep t m:Nat}{els:List (List AV)}(hid:σ id = ⟨ep,some (.row t m els)⟩){v:Value}(hv:Rel W F μ σ (.row id ep 0 els.length) v) :
  ∃cells,W.ownsRow 0 t m v els.length cells/\dz W F m els cells/\∀g,v.ownBlock=some g->∃c,μ id=some (g,c):=by
 obtain⟨_,⟨rfl,rfl,_⟩|⟨b,cap,hm,rfl,q1,q2⟩⟩:=gb hi hv hid
 ·exact⟨[],World.ownsRow_nil W 0 t m,dz.nil W F m,fun g h=>by simp [Value.ownBlock] at h⟩
 ·rcases hi.body _ _ _ hid with⟨hn,_⟩|⟨b',cap',cur,hp,hh,r1,r2,r3,r4,r5⟩
  ·rw [hn] at hm;cases hm
  ·obtain⟨rfl,rfl⟩:b=b'/\cap=cap':=by rw [hm] at hp;simpa using hp
   have hle:els.length*m<=cap*m:=Nat.mul_le_mul_right m r1
   refine⟨cur.toList.take (els.length*m),⟨by simp;omega,.inr ⟨b,cap,cur,by simp,qR _,hh,r1,r2,r3,rfl⟩⟩,⟨r4,by simp;omega,fun k cs j x hk hj=>?_⟩,fun g h=>⟨cap,by rw [hm];simp [Value.ownBlock] at h;rw [h]⟩⟩
   obtain⟨s1,u,s2,s3⟩:=r5 k cs j x hk hj
   have hlt:k*m+j<els.length*m:=by
    have h1:j<m:=by have:=(qD.1 hj).1;rw [r4 k cs hk] at this;exact this
    have h2:=Nat.mul_le_mul_right m (show k+1<=els.length from (qD.1 hk).1)
    rw [Nat.add_mul,Nat.one_mul] at h2
    omega
   exact⟨s1,u,by rw [uF,if_pos hlt];simpa using s2,s3⟩
def Src (W:World)(F:Nat->Prop)(m:Nat)(els:List (List AV))(v:Value):Prop :=
 ∃A c news,v = .slice A els.length c/\dz W F m els news/\((∃ad,A=some ad/\∀(j:Nat) (u:Value),news[j]?=some u->W.cell? (ad.add j)=some u)\/els=[])
theorem BE {W:World}{F:Nat->Prop}{m:Nat}{els:List (List AV)}{v:Value}(h:au W F (.sl els) v)(hm:∀cs∈els,cs.length=m)(h0:0<m):Src W F m els v:=by
 cases h with
 |sl _ A c m' b off cell hc hmx hA hl hone hr hw=>
  by_cases hp:0<els.length
  ·obtain⟨rfl,hF,hb⟩:=hA hp
   have hmm:m'=m:=by
    have h1:=qA hp
    rw [<- hl 0 _ h1]
    exact hm _ (qN h1)
   subst hmm
   have cellAt:∀i,i<els.length*m'->∃u,W.cell? ⟨b,off+i,none⟩=some u:=fun i hi=>by
    have hk:i / m'<els.length:=(Nat.div_lt_iff_lt_mul h0).2 hi
    have hcs:=qA hk
    have hj:i % m'<els[i / m'].length:=by rw [hl _ _ hcs];exact kB2 _ h0
    have:=hw _ _ _ _ hcs (qA hj)
    rw [show i / m'*m'+i % m'=i by rw [Nat.mul_comm];exact Nat.div_add_mod i m'] at this
    exact⟨_,this⟩
   let news:=(List.range (els.length*m')).map fun i=>(W.cell? ⟨b,off+i,none⟩).getD undef
   have hn:∀(i:Nat) (u:Value),news[i]?=some u->W.cell? ⟨b,off+i,none⟩=some u:=fun i u hu=>by
    simp only [news,qF] at hu
    cases hq:(List.range (els.length*m'))[i]? with
    |none=>rw [hq] at hu;cases hu
    |some q=>
     rw [hq] at hu
     obtain⟨hlt,e⟩:=qD.1 hq
     have e:i=q:=by simpa using e
     subst e
     obtain⟨w,hw'⟩:=cellAt i (by simpa using hlt)
     simp only [Option.map_some,hw',Option.getD_some,qU] at hu
     rw [hw',hu]
   refine⟨_,c,news,rfl,⟨hl,by simp [news],fun k cs j x hk hj=>?_⟩,.inl ⟨_,rfl,fun j u hu=>by rw [fY (W:=W)];exact hn j u hu⟩⟩
   have hlt:k*m'+j<els.length*m':=by
    have h1:j<m':=by have:=(qD.1 hj).1;rw [hl k cs hk] at this;exact this
    have h2:=Nat.mul_le_mul_right m' (show k+1<=els.length from (qD.1 hk).1)
    rw [Nat.add_mul,Nat.one_mul] at h2
    omega
   refine⟨hone k cs j x hk hj,_,?_,hr k cs j x hk hj⟩
   simp only [news,qF,List.getElem?_range hlt,Option.map_some,hw k cs j x hk hj,Option.getD_some]
  ·have h0:els=[]:=List.eq_nil_of_length_eq_zero (by omega)
   subst h0
   exact⟨A,c,[],rfl,dz.nil W F m,.inr rfl⟩
theorem Di {W:World}{F:Nat->Prop}{μ:Mu}{σ:Sto}(hi:Inv W F μ σ){id ep t m:Nat}{els:List (List AV)}(hid:σ id=⟨ep,some (.row t m els)⟩){v:Value}(hv:Rel W F μ σ (.row id ep 0 els.length) v):Src W F m els v:=by
 obtain⟨cells,⟨hl,h⟩,hc,_⟩:=nT hi hid hv
 rcases h with⟨rfl,h0⟩|⟨g,cap,cur,rfl,_,hh,h1,h2,h3,h4⟩
 ·have e:els=[]:=List.eq_nil_of_length_eq_zero h0
  subst e
  exact⟨none,0,[],rfl,dz.nil W F m,.inr rfl⟩
 ·refine⟨_,cap,cells,rfl,hc,.inl ⟨_,rfl,fun j u hu=>?_⟩⟩
  rw [fY (W:=W),vN,kB0 _ g _ _ _ (0,0) hh]
  rw [<- h4,uF] at hu
  split at hu
  ·simpa using hu
  ·cases hu
section
variable {P:Program} {N:Nat} {o:Oper} {s:St}
theorem nX {t ty e:Nat}{ti ei:TI}(ht:aB P t ti)(hk:ti.k = .slice e)(he:aB P e ei)(h0:0 < ei.n){W:World}{F:Nat -> Prop}{v y:Value}{n:Nat}{els els2:List (List AV)}{cells:List Value}(hown:W.ownsRow 0 e ei.n v els.length cells)(hc:dz W F ei.n els cells)(hy:Src W F ei.n els2 y)
  (hb:(els.length+els2.length)*ei.sz<=140737488355328) (h63:els.length+els2.length<=9223372036854775807) :
  ∃v' W' cells',(Builtin.append_ #[t,t] ty #[v,y]).run P W = .ok v' W'/\W'.ownsRow 0 e ei.n v' (els++els2).length cells'/\(∃news,cells'=cells++news/\dz W F ei.n els2 news)/\W.grownBy W' v.ownBlock/\(v'.ownBlock=v.ownBlock\/v'.ownBlock=some W.heap.size):=by
 obtain⟨A,c,news,rfl,hn,hA⟩:=hy
 obtain⟨inf,d,z,q1,q2,q3,q4,q5,q6,q7⟩:=he.h
 have hzl:z.cells.size=ei.n:=by rw [<- he.zl,<- qL];exact (da (W:=W) (F:=F) q7).1
 rcases hA with⟨ad,rfl,hcell⟩|rfl
 ·obtain⟨v',W',hr,ho,hg,_,hat⟩:=run_append_own_at (P:=P) W 0 t ty e inf z ei.n ei.sz (ht.slice hk) q1 q6 q3 q4 hzl h0 v els.length cells hown ad els2.length c news hn.n hcell (hn.one h0) (by unfold maxLen;omega) hb (qR _)
  exact⟨v',W',_,hr,by rw [qK];exact ho,⟨news,rfl,hn⟩,hg,hat⟩
 ·have e0:news=[]:=List.eq_nil_of_length_eq_zero (by rw [hn.n];simp)
  subst e0
  cases A with
  |some ad=>
   obtain⟨v',W',hr,ho,hg,_,hat⟩:=run_append_own_at (P:=P) W 0 t ty e inf z ei.n ei.sz (ht.slice hk) q1 q6 q3 q4 hzl h0 v els.length cells hown ad 0 c [] (by simp) (by simp) (by simp) (by unfold maxLen;simp at h63;omega) (by simpa using hb) (qR _)
   exact⟨v',W',_,hr,by rw [uA];simpa using ho,⟨[],rfl,hn⟩,hg,hat⟩
  |none=>
   refine⟨v,W,cells,?_,by rw [uA];exact hown,⟨[],by simp,hn⟩,⟨rfl,rfl,rfl,qJ _,fun _ _ _=>rfl⟩,.inl rfl⟩
   rcases hown.2 with⟨rfl,h1⟩|⟨g,cap,cur,rfl,_,_,hnc,_⟩
   ·simp [Builtin.append_,kA9 (ht.slice hk),he.size,Builtin.lenOf,Builtin.firstCells]
   ·simp [Builtin.append_,kA9 (ht.slice hk),he.size,Builtin.lenOf,Builtin.firstCells,hnc,storeCells]
theorem jZ {c : Call} {x y : Operand} {t e id : Nat} {ti ei : TI} {els els2 : List (List AV)} (ho : o.op = .call c) (hc : c.callee = .builtin .append) (ha : c.args = #[x, y]) (hat : c.argTypes = #[t, t]) (ht : aB P t ti) (hk : ti.k = .slice e) (he : aB P e ei) (h0 : (ei.n == 0) = false)
    (rd:List Nat) (hx:(∃ep,s.ev x = .row id ep 0 els.length/\s.σ id=⟨ep,some (.row e ei.n els)⟩)\/(s.ev x = .raw (.slice none 0 0)/\els=[]))
    (hy:∀(s':St) W F μ v,(∀i∈rd,s'.σ i=s.σ i)->Inv W F μ s'.σ->Rel W F μ s'.σ (s.ev y) v->Src W F ei.n els2 v)
    (hb:(els.length+els2.length)*ei.sz<=140737488355328) (h63:els.length+els2.length<=9223372036854775807) {r:List (List AV)} (hr:els++els2=r) {n:Nat} (hn:r.length=n) :
    ax P N o s ⟨.row id ((s.σ id).ep+1) 0 n,[(id,⟨(s.σ id).ep+1,some (.row e ei.n r)⟩)],rd⟩:=by
  subst hr hn
  intro s' g1 g2 g3 W F μ a hr K Q hK
  have hid:s'.σ id=s.σ id:=g3 (id,⟨(s.σ id).ep+1,some (.row e ei.n (els++els2))⟩) (by simp)
  have h0' : 0 < ei.n := by have : ¬ ei.n = 0 := by simpa using h0
                            omega
  have opers:o.op.operands.toList=[x,y]:=by rw [ho];simp [Op.operands,Call.operands,hc,ha]
  have ex:=hr.ev x
  rw [g1 x (by rw [opers];simp)] at ex
  have ey:=hr.ev y
  rw [g1 y (by rw [opers];simp)] at ey
  have hsrc:=hy s' W F μ _ g2 hr.inv ey
  have hown:∃cells,W.ownsRow 0 e ei.n (a.eval x) els.length cells/\dz W F ei.n els cells/\∀g,(a.eval x).ownBlock=some g->(s'.σ id).body.isSome=true/\∃c,μ id=some (g,c):=by
    rcases hx with⟨ep,hx1,hx2⟩|⟨hx1,rfl⟩
    · rw [hx1] at ex
      obtain⟨cells,h1,h2,h3⟩:=nT hr.inv (hid.trans hx2) ex
      exact⟨cells,h1,h2,fun g hg=>⟨by rw [hid,hx2];rfl,h3 g hg⟩⟩
    · rw [hx1] at ex
      rw [ex.raw']
      exact⟨[],World.ownsRow_nil W 0 e ei.n,dz.nil W F ei.n,fun g hg=>by simp [Value.ownBlock] at hg⟩
  obtain⟨cells,h1,h2,h3⟩:=hown
  obtain⟨v',W',cells',hrun,ho',⟨news,rfl,hnews⟩,hg,hatb⟩:=nX (P:=P) (ty:=o.type) (n:=0) ht hk he h0' h1 h2 hsrc hb h63
  have hk':Kp (fun b=>(s'.σ id).body.isSome=true/\∃c,μ id=some (b,c)) W W':=(Kp.refl _ W).grown hg fun k hk=>.inl (h3 k hk)
  -- where the new row lies
  have hp : ∃ p' : Option (Nat × Nat), (∀ b c, p' = some (b, c) -> b < W'.heap.size /\ (W.heap.size <= b \/ ((s'.σ id).body.isSome = true /\ ∃ c', μ id = some (b, c')))) /\
      (∀F μ' σ',dz W' F ei.n (els++els2) (cells++news)->aM W' F μ' σ' p' (.row e ei.n (els++els2)))/\FZ p' ei.n 0 (els++els2).length (els++els2).length v'/\v'.oneCell'=true:=by
    rcases ho'.2 with⟨rfl,hz⟩|⟨g,cap,cur,rfl,_,hh,r1,r2,r3,r4⟩
    · have e0:=List.eq_nil_of_length_eq_zero hz
      exact⟨none,fun b c h=>(by cases h),fun F μ' σ' _=>.inl ⟨rfl,e0⟩,⟨by omega,rfl⟩,rfl⟩
    · refine⟨some (g,cap),fun b c h=>?_,fun F μ' σ' hc=>hc.body hh r1 r2 r3 r4,⟨by omega,by simp⟩,rfl⟩
      obtain⟨rfl,rfl⟩:g=b/\cap=c:=by simpa using h
      refine⟨(qI.1 hh).1,?_⟩
      rcases hatb with h|h
      · exact .inr (h3 g (by rw [<- h];rfl))
      · have:W.heap.size=g:=by simp [Value.ownBlock] at h;exact h.symm
        exact .inl (by omega)
  obtain⟨p',p1,p2,p3,p4⟩:=hp
  obtain⟨hs,hi⟩:=cy hr.inv id p' ((s.σ id).ep+1) (.row e ei.n (els++els2)) hk' p1 (.inl (by rw [hid];omega)) (fun hs=>p2 _ _ _ ((h2.append hnews).stp hr.inv hs))
  unfold Oper.wp
  have hrun':(execOp a.eval o).run P W = .ok (.value v') W':=by
    simp only [execOp,ho,resolve,hc,ha,hat,List.map_toArray,vE,List.map_nil,kA2,kA3,kA1,invoke,builtin,hrun]
  rw [hrun']
  refine hK W' F (upm μ id p') _ (hr.put hs hi (.row id _ 0 _ _ ?_ p4 fun bd' m' l' hbd hL=>?_)) hs
  · rw [bi,if_pos rfl]
    exact qJ _
  · rw [bi,if_pos rfl] at hbd
    obtain rfl:aE.row e ei.n (els++els2)=bd':=by simpa using hbd
    obtain⟨rfl,rfl⟩:ei.n=m'/\(els++els2).length=l':=by simpa only [aE.rowL,qU,vC] using hL
    rw [dE,if_pos rfl]
    exact p3
theorem nv {c : Call} {x y : Operand} {t e id : Nat} {ti ei : TI} {els els2 : List (List AV)} (ho : o.op = .call c) (hc : c.callee = .builtin .append) (ha : c.args = #[x, y]) (hat : c.argTypes = #[t, t]) (ht : aB P t ti) (hk : ti.k = .slice e) (he : aB P e ei) (h0 : (ei.n == 0) = false)
    (hx:(∃ep,s.ev x = .row id ep 0 els.length/\s.σ id=⟨ep,some (.row e ei.n els)⟩)\/(s.ev x = .raw (.slice none 0 0)/\els=[]))
    (hy:s.ev y = .sl els2) (hm:∀cs∈els2,cs.length=ei.n) (hb:(els.length+els2.length)*ei.sz<=140737488355328) (h63:els.length+els2.length<=9223372036854775807) {r:List (List AV)} (hr:els++els2=r) {n:Nat} (hn:r.length=n) :
    ax P N o s ⟨.row id ((s.σ id).ep+1) 0 n,[(id,⟨(s.σ id).ep+1,some (.row e ei.n r)⟩)],[]⟩ :=
  jZ ho hc ha hat ht hk he h0 [] hx (fun s' W F μ v _ hi hv=>by
    rw [hy] at hv
    exact BE     hv.sl' hm (by have : ¬ ei.n = 0 := by simpa using h0
                               omega)) hb h63 hr hn
theorem n7 {c:Call}{x y:Operand}{t e id id2 ep2:Nat}{ti ei:TI}{els els2:List (List AV)}(ho:o.op = .call c)(hc:c.callee = .builtin .append)(ha:c.args = #[x,y])(hat:c.argTypes = #[t,t])(ht:aB P t ti)(hk:ti.k = .slice e)(he:aB P e ei)(h0:(ei.n == 0)=false)
  (hx:(∃ep,s.ev x = .row id ep 0 els.length/\s.σ id=⟨ep,some (.row e ei.n els)⟩)\/(s.ev x = .raw (.slice none 0 0)/\els=[]))
  (hy:s.ev y = .row id2 ep2 0 els2.length) (hid2:s.σ id2=⟨ep2,some (.row e ei.n els2)⟩) (hb:(els.length+els2.length)*ei.sz<=140737488355328) (h63:els.length+els2.length<=9223372036854775807) {r:List (List AV)} (hr:els++els2=r) {n:Nat} (hn:r.length=n) :
  ax P N o s ⟨.row id ((s.σ id).ep+1) 0 n,[(id,⟨(s.σ id).ep+1,some (.row e ei.n r)⟩)],[id2]⟩ :=
 jZ ho hc ha hat ht hk he h0 [id2] hx (fun s' W F μ v h2 hi hv=>by
  rw [hy] at hv
  exact Di hi ((h2 id2 (by simp)).trans hid2) hv) hb h63 hr hn
end
def caA (σ:Sto):AV->Option (List AV × List Nat)
 | .ro cs=>some (cs,[])
 | .own id ep off=>match σ id with
  |⟨ep',some (.box _ cs)⟩=>cond (Nat.beq ep' ep) (some (cs.drop off,[id])) none
  |_=>none
 |_=>none
theorem n5 {σ:Sto}{x:AV}{cs:List AV}{l:List Nat}(h:caA σ x=some (cs,l)):CA σ x cs l:=by
 unfold caA at h
 split at h
 ·simp only [qU,vC] at h
  obtain⟨rfl,rfl⟩:=h
  exact .ro _
 ·split at h
  ·rename_i id ep off sb ep' t cs' e
   cases hb:Nat.beq ep' ep with
   |false=>rw [hb] at h;cases h
   |true=>
    rw [hb,cond_true] at h
    simp only [qU,vC] at h
    obtain⟨rfl,rfl⟩:=h
    obtain rfl:=qY hb
    exact .own e
  ·cases h
 ·cases h
def iX:AV->Bool
 | .raw (.slice none 0 0)=>true
 |_=>false
theorem lq {x:AV}(h:iX x=true):x = .raw (.slice none 0 0):=by
 unfold iX at h
 split at h
 ·rfl
 ·cases h
theorem bh {α:Type}{c:Bool}{x:Option α}{r:α}(h:cond c x none=some r):c=true/\x=some r:=by
 cases c
 ·cases h
 ·exact⟨rfl,h⟩
def fzA (σ:Sto):Nat->AV->Option (AV × List Nat)
 |0,_=>none
 |k+1,x=>match x with
  | .b _ | .i _ _ | .u _ | .y _ | .s _ | .sl _ | .ro _ | .any=>some (x,[])
  | .raw v=>cond (iX (.raw v)) (some (.sl [],[])) (some (.raw v,[]))
  | .row id ep off n=>match σ id with
   |⟨ep',some (.row _ _ els)⟩=>cond (Nat.beq ep' ep) (some (.sl ((els.drop off).take n),[id])) none
   |_=>none
  | .own id ep off=>match σ id with
   |⟨ep',some (.box _ cs)⟩=>cond (Nat.beq ep' ep) (match cs.foldr (fun c acc=>match fzA σ k c,acc with|some (y,l),some (ys,l')=>some (y::ys,l++l')|_,_=>none) (some ([],[])) with
     |some (cs',l)=>some (.ro (cs'.drop off),id::l)
     |none=>none) none
   |_=>none
  | .ref id ep (.sl off n cap)=>match σ id with
   |⟨ep',some (.box _ cs)⟩=>cond (Nat.beq ep' ep && Nat.ble (off+n) cs.length && Nat.ble n cap && Nat.ble cap 1000000) (match cs.foldr (fun c acc=>match fzA σ k c,acc with|some (y,l),some (ys,l')=>some (y::ys,l++l')|_,_=>none) (some ([],[])) with
     |some (cs',l)=>some (.sl (((cs'.drop off).take n).map fun c=>[c]),id::l)
     |none=>none) none
   |_=>none
  | .agg cs=>match cs.foldr (fun c acc=>match fzA σ k c,acc with|some (y,l),some (ys,l')=>some (y::ys,l++l')|_,_=>none) (some ([],[])) with
   |some (cs',l)=>some (.agg cs',l)
   |none=>none
  | .tup cs=>match cs.foldr (fun c acc=>match fzA σ k c,acc with|some (y,l),some (ys,l')=>some (y::ys,l++l')|_,_=>none) (some ([],[])) with
   |some (cs',l)=>some (.tup cs',l)
   |none=>none
  | .fn f a c=>match a.foldr (fun c acc=>match fzA σ k c,acc with|some (y,l),some (ys,l')=>some (y::ys,l++l')|_,_=>none) (some ([],[])),c.foldr (fun c acc=>match fzA σ k c,acc with|some (y,l),some (ys,l')=>some (y::ys,l++l')|_,_=>none) (some ([],[])) with
   |some (a',l),some (c',l')=>some (.fn f a' c',l++l')
   |_,_=>none
  |_=>none
def fzL (σ:Sto)(k:Nat)(xs:List AV):Option (List AV × List Nat):=xs.foldr (fun c acc=>match fzA σ k c,acc with|some (y,l),some (ys,l')=>some (y::ys,l++l')|_,_=>none) (some ([],[]))
theorem tV {σ:Sto}{k:Nat}(ih:∀{x y:AV} {l:List Nat},fzA σ k x=some (y,l)->Fz σ x y l):∀{xs ys:List AV} {l:List Nat},fzL σ k xs=some (ys,l)->FzL σ xs ys l
 |[],ys,l,h=>by
  simp only [fzL,List.foldr_nil,qU,vC] at h
  obtain⟨rfl,rfl⟩:=h
  exact .nil
 |x::xs,ys,l,h=>by
  unfold fzL at h
  rw [List.foldr_cons] at h
  split at h
  ·rename_i y l1 ys' l2 h1 h2
   simp only [qU,vC] at h
   obtain⟨rfl,rfl⟩:=h
   exact .cons (ih h1) (tV ih h2)
  ·cases h
theorem lD {σ:Sto}:∀(k:Nat) {x y:AV} {l:List Nat},fzA σ k x=some (y,l)->Fz σ x y l
 |0,x,y,l,h=>by cases h
 |k+1,x,y,l,h=>by
  have ihl:∀{xs ys:List AV} {l:List Nat},fzL σ k xs=some (ys,l)->FzL σ xs ys l:=tV (lD k)
  cases x with
  |raw v=>
   simp only [fzA] at h
   cases hb:iX (.raw v) with
   |true=>
    rw [hb] at h
    simp only [cond_true,qU,vC] at h
    obtain⟨rfl,rfl⟩:=h
    rw [lq hb]
    exact .nils
   |false=>
    rw [hb] at h
    simp only [cond_false,qU,vC] at h
    obtain⟨rfl,rfl⟩:=h
    exact .raw v
  |row id ep off n=>
   simp only [fzA] at h
   split at h
   ·rename_i ep' t m els hs
    obtain⟨hb,h'⟩:=bh h
    clear h
    obtain rfl:=qY hb
    simp only [qU,vC] at h'
    obtain⟨rfl,rfl⟩:=h'
    exact .row hs rfl
   ·cases h
  |own id ep off=>
   simp only [fzA] at h
   split at h
   ·rename_i ep' t cs hs
    obtain⟨hb,h'⟩:=bh h
    clear h
    obtain rfl:=qY hb
    split at h'
    ·rename_i cs' l' hq
     simp only [qU,vC] at h'
     obtain⟨rfl,rfl⟩:=h'
     exact .own hs (ihl hq)
    ·cases h'
   ·cases h
  |agg cs=>
   simp only [fzA] at h
   split at h
   ·rename_i cs' l' hq
    simp only [qU,vC] at h
    obtain⟨rfl,rfl⟩:=h
    exact .agg (ihl hq)
   ·cases h
  |tup cs=>
   simp only [fzA] at h
   split at h
   ·rename_i cs' l' hq
    simp only [qU,vC] at h
    obtain⟨rfl,rfl⟩:=h
    exact .tup (ihl hq)
   ·cases h
  |fn f a c=>
   simp only [fzA] at h
   split at h
   ·rename_i a' l1 c' l2 hq1 hq2
    simp only [qU,vC] at h
    obtain⟨rfl,rfl⟩:=h
    exact .fn (ihl hq1) (ihl hq2)
   ·cases h
  |ref id ep kd=>
   cases kd with
   |map=>cases h
   |sl off n cap=>
    simp only [fzA] at h
    split at h
    ·rename_i ep' t cs hs
     obtain⟨hb,h'⟩:=bh h
     clear h
     simp only [qQ] at hb
     obtain⟨⟨⟨hb,b1⟩,b2⟩,b3⟩:=hb
     obtain rfl:=qY hb
     split at h'
     ·rename_i cs' l' hq
      simp only [qU,vC] at h'
      obtain⟨rfl,rfl⟩:=h'
      exact .refsl hs (ihl hq) (qW b1) (qW b2) (vH (qW b3) (by decide))
     ·cases h'
    ·cases h
  |el=>cases h
  |any=>simp only [fzA,qU,vC] at h;obtain⟨rfl,rfl⟩:=h;exact .any
  |b x=>simp only [fzA,qU,vC] at h;obtain⟨rfl,rfl⟩:=h;exact .b x
  |i k n=>simp only [fzA,qU,vC] at h;obtain⟨rfl,rfl⟩:=h;exact .i k n
  |u x=>simp only [fzA,qU,vC] at h;obtain⟨rfl,rfl⟩:=h;exact .u x
  |y x=>simp only [fzA,qU,vC] at h;obtain⟨rfl,rfl⟩:=h;exact .y x
  |s x=>simp only [fzA,qU,vC] at h;obtain⟨rfl,rfl⟩:=h;exact .s x
  |sl x=>simp only [fzA,qU,vC] at h;obtain⟨rfl,rfl⟩:=h;exact .sl x
  |ro x=>simp only [fzA,qU,vC] at h;obtain⟨rfl,rfl⟩:=h;exact .ro x
theorem t6 {σ:Sto}{k:Nat}{xs ys:List AV}{l:List Nat}(h:fzL σ k xs=some (ys,l)):FzL σ xs ys l:=tV (lD k) h
def iN {α:Type}(n:Nat):Nat->List α->List (List α)
 |0,_=>[]
 |k+1,l=>l.take n::iN n k (l.drop n)
theorem lU {α:Type}(n:Nat):∀(k:Nat) (l:List α),l.length=k*n->(iN n k l).flatten=l
 |0,l,h=>by
  simp only [Nat.zero_mul,uD] at h
  rw [h];rfl
 |k+1,l,h=>by
  rw [iN,uN,lU n k _ (by rw [vW,h,Nat.add_mul];omega),uU]
theorem m6 {α:Type}(n:Nat):∀(k:Nat) (l:List α),(iN n k l).length=k
 |0,l=>rfl
 |k+1,l=>by rw [iN,qS,m6 n k]
def GO (T:TT)(σ:Sto)(t:Nat)(x:AV):Option Eff :=
 match dZ T t with
 |some ti=>match ti.k,x with
  | .slice _,.sl els=>some ⟨.i .i64 els.length,[],[]⟩
  | .slice _,.row id ep off n=>match σ id with
   |⟨ep',some (.row _ _ _)⟩=>cond (Nat.beq ep' ep) (some ⟨.i .i64 n,[],[id]⟩) none
   |_=>none
  | .slice _,x=>cond (iX x) (some ⟨.i .i64 ((0:Nat):Int),[],[]⟩) none
  | .str,.s l=>some ⟨.i .i64 l.length,[],[]⟩
  |_,_=>none
 |none=>none
def ij (B:Nat)(o:Oper):Nat:=match o.dst with|some d=>B+d|none=>B
def stp (T:TT)(B:Nat)(o:Oper)(s:St):Option Eff :=
 match o.op with
 | .move x | .assign x=>some ⟨s.ev x,[],[]⟩
 | .pick c x y=>match s.ev c with
  | .b z=>some ⟨cond z (s.ev x) (s.ev y),[],[]⟩
  |_=>none
 | .binOp op t x y _=>match yK op (s.ev x) (s.ev y) with
  |some r=>some ⟨r,[],[]⟩
  |none=>match s.ev x,s.ev y,op,dZ T t with
   | .b p,.b q,.eql,some ⟨.bool,_,_,_⟩=>some ⟨.b (p == q),[],[]⟩
   | .b p,.b q,.neq,some ⟨.bool,_,_,_⟩=>some ⟨.b (!(p == q)),[],[]⟩
   |x,.raw (.pointer none),.eql,some ⟨.ptr,_,_,_⟩=>match Bb s.σ x with
    |some (b,l)=>some ⟨.b b,[],l⟩
    |none=>none
   |x,.raw (.pointer none),.neq,some ⟨.ptr,_,_,_⟩=>match Bb s.σ x with
    |some (b,l)=>some ⟨.b (!b),[],l⟩
    |none=>none
   |x,.raw (.slice none 0 0),.eql,some ⟨.slice _,_,_,_⟩=>match z8 x with
    |some b=>some ⟨.b b,[],[]⟩
    |none=>none
   |x,.raw (.slice none 0 0),.neq,some ⟨.slice _,_,_,_⟩=>match z8 x with
    |some b=>some ⟨.b (!b),[],[]⟩
    |none=>none
   |_,_,_,_=>none
 | .unOp op _ x=>match unA op (s.ev x) with
  |some r=>some ⟨r,[],[]⟩
  |none=>none
 | .extract x i=>match s.ev x with
  | .tup xs=>match xs[i]? with
   |some r=>some ⟨r,[],[]⟩
   |none=>none
  |_=>none
 | .makeFunc (.func f) first caps=>some ⟨.fn f (first.toList.map s.ev) (caps.toList.map s.ev),[],[]⟩
 | .nilCheck x=>match s.ev x with
  | .fn f a c=>some ⟨.fn f a c,[],[]⟩
  |p=>match caA s.σ p with
   |some (_,l)=>some ⟨p,[],l⟩
   |none=>none
 | .load t p=>match dZ T t,caA s.σ (s.ev p) with
  |some ti,some (cs,l)=>match ldA ti cs with
   |some r=>some ⟨r,[],l⟩
   |none=>none
  |_,_=>none
 | .fieldAddr t p f=>match dZ T t,caA s.σ (s.ev p) with
  |some ⟨.strct fs,_,_,_⟩,some (_,l)=>match fs[f]? with
   |some (ft,off)=>match dZ T ft,ue off (s.ev p) with
    |some fi,some r=>cond (fi.n == 0) none (some ⟨r,[],l⟩)
    |_,_=>none
   |none=>none
  |_,_=>none
 | .indexAddr t x i=>match dZ T t,s.ev i,caA s.σ (s.ev x) with
  |some ⟨.arr n e,_,_,_⟩,.i _ (.ofNat k),some (_,l)=>match dZ T e with
   |some ei=>match ue (k*ei.n) (s.ev x) with
    |some r=>cond (Nat.blt k n) (some ⟨r,[],l⟩) none
    |none=>none
   |none=>none
  |_,_,_=>none
 | .field t x f=>match dZ T t,s.ev x with
  |some ⟨.strct fs,_,_,_⟩,.agg cs=>match fs[f]? with
   |some (ft,off)=>match dZ T ft with
    |some fi=>match sL fi off cs with
     |some r=>some ⟨r,[],[]⟩
     |none=>none
    |none=>none
   |none=>none
  |_,_=>none
 | .convert t u x=>match dZ T t,dZ T u with
  |some _,some ⟨.int k,_,_,_⟩=>match cvA k (s.ev x) with
   |some r=>some ⟨r,[],[]⟩
   |none=>none
  |_,_=>none
 | .box t x=>match s.σ (ij B o) with
  |⟨e,_⟩=>cond ((s.ev x).cells.all AV.one) (some ⟨.own (ij B o) (e+1) 0,[(ij B o,⟨e+1,some (.box t (s.ev x).cells)⟩)],[]⟩) none
 | .alloc t=>match dZ T t,s.σ (ij B o) with
  |some ti,⟨e,_⟩=>some ⟨.own (ij B o) (e+1) 0,[(ij B o,⟨e+1,some (.box t ti.z)⟩)],[]⟩
  |none,_=>none
 | .build t parts=>match dZ T t with
  |some ⟨.strct fs,n,sz,z⟩=>cond (fs.all fun p=>(dZ T p.1).isSome) (match kP (plS T fs) z (parts.toList.map fun p=>(p.1,s.ev p.2)) with
    |some r=>cond (r.all AV.one) (some ⟨.agg r,[],[]⟩) none
    |none=>none) none
  |_=>none
 | .store t p x=>match dZ T t,s.ev p with
  |some ti,.own id ep off=>match s.σ id with
   |⟨ep',some (.box ty cs)⟩=>cond (Nat.beq ep' ep && (s.ev x).cells.all AV.one && Nat.beq (s.ev x).cells.length ti.n && Nat.ble (off+ti.n) cs.length)
     (some ⟨.tup [],[(id,⟨ep,some (.box ty (ovw cs off (s.ev x).cells))⟩)],[]⟩) none
   |_=>none
  |_,_=>none
 | .buildSlice t len parts=>match dZ T t with
  |some ⟨.slice e,_,_,_⟩=>match dZ T e,fzL s.σ 6 (parts.toList.map fun p=>s.ev p.2) with
   |some ei,some (xs,l)=>match kP (fun i=>some (i*ei.n,ei.n)) (List.replicate len ei.z).flatten ((parts.toList.map (·.1)).zip xs) with
    |some r=>match s.σ (ij B o) with
     |⟨ep,_⟩=>cond (Nat.blt 0 ei.n && Nat.blt 0 len && Nat.ble (len*ei.n) 16777216 && Nat.beq r.length (len*ei.n) && (iN ei.n len r).all (fun cs=>Nat.beq cs.length ei.n) && (iN ei.n len r).all (fun cs=>cs.all fun x=>x.one && x.pu1))
      (some ⟨.row (ij B o) (ep+1) 0 len,eR s.σ l++[(ij B o,⟨ep+1,some (.row e ei.n (iN ei.n len r))⟩)],[]⟩) none
    |none=>none
   |_,_=>none
  |_=>none
 | .call ⟨.builtin .len,args,ats⟩=>match args.toList,ats.toList with
  |[x],[t]=>GO T s.σ t (s.ev x)
  |_,_=>none
 | .call ⟨.builtin .max,args,ats⟩=>match args.toList,ats.toList with
  |[x,y],[_,_]=>match s.ev x,s.ev y with
   | .i k m,.i _ n=>some ⟨.i k (max m n),[],[]⟩
   |_,_=>none
  |_,_=>none
 | .call ⟨.builtin .min,args,ats⟩=>match args.toList,ats.toList with
  |[x,y],[_,_]=>match s.ev x,s.ev y with
   | .i k m,.i _ n=>some ⟨.i k (min m n),[],[]⟩
   |_,_=>none
  |_,_=>none
 |_=>none
theorem Db {P:Program}{N:Nat}{T:TT}(hT:fW P T=true){o:Oper}{s:St}{c:Call}{x:Operand}{t:Nat}{E:Eff}(ho:o.op = .call c)(hc:c.callee = .builtin .len)(ha:c.args = #[x])(hat:c.argTypes = #[t])(h:GO T s.σ t (s.ev x)=some E):ax P N o s E:=by
 unfold GO at h
 split at h
 ·rename_i ti hti
  have ht:=aW hT hti
  split at h
  ·rename_i e els hk hx
   obtain rfl:=qB h
   exact Gz ho hc ha hat ht hk hx
  ·rename_i e id ep off n hk hx
   split at h
   ·rename_i ep' a b cc hs
    obtain⟨hb,h⟩:=bh h
    obtain rfl:=qB h
    obtain rfl:=qY hb
    exact DF ho hc ha hat ht hk hx hs
   ·cases h
  ·rename_i hk _ _
   obtain⟨hb,h⟩:=bh h
   obtain rfl:=qB h
   exact Ea ho hc ha hat ht hk (lq hb)
  ·rename_i l hk hx
   obtain rfl:=qB h
   exact CB ho hc ha hat ht hk hx
  ·cases h
 ·cases h
theorem xC {α:Type}{a:Array α}{x:α}(h:a.toList=[x]):a = #[x]:=by
 apply Array.toList_inj.1
 rw [h]
theorem mG {α:Type}{a:Array α}{x y:α}(h:a.toList=[x,y]):a = #[x,y]:=by
 apply Array.toList_inj.1
 rw [h]
theorem fZ {T:TT}{B:Nat}{o:Oper}{s:St}{E:Eff}(h:stp T B o s=some E):nS o=true/\sr o=false:=by
 obtain⟨dst,op,ty,pos,after,guard⟩:=o
 cases op with
 |defer c=>simp [stp] at h
 |call c=>
  obtain⟨callee,args,at'⟩:=c
  cases callee with
  |value f=>simp [stp] at h
  |invoke r n=>simp [stp] at h
  |builtin b=>cases b <;> first|exact⟨rfl,rfl⟩|(simp [stp] at h;done)
 |_=>exact⟨rfl,rfl⟩
theorem p7 {P:Program}{N:Nat}{T:TT}(hT:fW P T=true){B:Nat}{o:Oper}{s:St}{E:Eff}(h:stp T B o s=some E):ax P N o s E:=by
 unfold stp at h
 split at h
 ·rename_i x ho
  obtain rfl:=qB h
  exact Ei ho
 ·rename_i x ho
  obtain rfl:=qB h
  exact yQ ho
 ·rename_i c x y ho
  split at h
  ·rename_i z hz
   obtain rfl:=qB h
   exact CW ho hz
  ·cases h
 ·rename_i op t x y yt ho
  split at h
  ·rename_i r hr
   obtain rfl:=qB h
   exact Gq ho hr
  ·split at h
   ·rename_i p q n sz z hx hy ht _
    obtain rfl:=qB h
    exact zO ho (aW hT ht) rfl hx hy (.inl ⟨rfl,rfl⟩)
   ·rename_i p q n sz z hx hy ht _
    obtain rfl:=qB h
    exact zO ho (aW hT ht) rfl hx hy (.inr ⟨rfl,rfl⟩)
   ·rename_i hy ht _
    split at h
    ·rename_i b l hn
     obtain rfl:=qB h
     exact Ad ho (aW hT ht) rfl hn hy (.inl ⟨rfl,rfl⟩)
    ·cases h
   ·rename_i hy ht _
    split at h
    ·rename_i b l hn
     obtain rfl:=qB h
     exact Ad ho (aW hT ht) rfl hn hy (.inr ⟨rfl,rfl⟩)
    ·cases h
   ·rename_i hy ht _
    split at h
    ·rename_i b hn
     obtain rfl:=qB h
     exact xj ho (aW hT ht) rfl hn hy (.inl ⟨rfl,rfl⟩)
    ·cases h
   ·rename_i hy ht _
    split at h
    ·rename_i b hn
     obtain rfl:=qB h
     exact xj ho (aW hT ht) rfl hn hy (.inr ⟨rfl,rfl⟩)
    ·cases h
   ·cases h
 ·rename_i op t x ho
  split at h
  ·rename_i r hr
   obtain rfl:=qB h
   exact Hi ho hr
  ·cases h
 ·rename_i x i ho
  split at h
  ·rename_i xs hx
   split at h
   ·rename_i r hr
    obtain rfl:=qB h
    exact tT ho hx hr
   ·cases h
  ·cases h
 ·rename_i f first caps ho
  obtain rfl:=qB h
  exact r9 ho
 ·rename_i x ho
  split at h
  ·rename_i f a c hx
   obtain rfl:=qB h
   rw [<- hx]
   exact qe ho hx
  ·split at h
   ·rename_i cs l hc
    obtain rfl:=qB h
    exact tl ho (n5 hc)
   ·cases h
 ·rename_i t p ho
  split at h
  ·rename_i ti cs l ht hc
   split at h
   ·rename_i r hr
    obtain rfl:=qB h
    exact gI ho (aW hT ht) (n5 hc) hr
   ·cases h
  ·cases h
 ·rename_i t p f ho
  split at h
  ·rename_i fs n sz z cs l ht hc
   split at h
   ·rename_i ft off hf
    split at h
    ·rename_i fi r hfi hr
     cases hb:(fi.n == 0) with
     |true=>rw [hb] at h;cases h
     |false=>
      rw [hb,cond_false] at h
      obtain rfl:=qB h
      exact gD ho (aW hT ht) rfl hf (aW hT hfi) hb (n5 hc) hr
    ·cases h
   ·cases h
  ·cases h
 ·rename_i t x i ho
  split at h
  ·rename_i n e sz nn z kd k cs l ht hi hc
   split at h
   ·rename_i ei hei
    split at h
    ·rename_i r hr
     obtain⟨hb,h⟩:=bh h
     obtain rfl:=qB h
     exact pC ho (aW hT ht) rfl (aW hT hei) hi (qW hb) (n5 hc) hr
    ·cases h
   ·cases h
  ·cases h
 ·rename_i t x f ho
  split at h
  ·rename_i fs n sz z cs ht hx
   split at h
   ·rename_i ft off hf
    split at h
    ·rename_i fi hfi
     split at h
     ·rename_i r hr
      obtain rfl:=qB h
      exact y8 ho (aW hT ht) rfl hf (aW hT hfi) hx hr
     ·cases h
    ·cases h
   ·cases h
  ·cases h
 ·rename_i t u x ho
  split at h
  ·rename_i ti k n sz z ht hu
   split at h
   ·rename_i r hr
    obtain rfl:=qB h
    exact CI ho (aW hT ht) (aW hT hu) rfl hr
   ·cases h
  ·cases h
 ·rename_i t x ho
  split at h
  rename_i e bd hs
  obtain⟨hb,h⟩:=bh h
  obtain rfl:=qB h
  have he:(s.σ (ij B o)).ep=e:=by rw [hs]
  rw [<- he]
  exact zk ho rfl hb
 ·rename_i t ho
  split at h
  ·rename_i ti e bd ht hs
   obtain rfl:=qB h
   have he:(s.σ (ij B o)).ep=e:=by rw [hs]
   rw [<- he]
   exact sA ho (aW hT ht)
  ·cases h
 ·rename_i t parts ho
  split at h
  ·rename_i fs n sz z ht
   obtain⟨hb,h⟩:=bh h
   split at h
   ·rename_i r hr
    obtain⟨hb',h⟩:=bh h
    obtain rfl:=qB h
    exact zb hT ho ht rfl hb hr hb'
   ·cases h
  ·cases h
 ·rename_i t p x ho
  split at h
  ·rename_i ti id ep off ht hp
   split at h
   ·rename_i ep' ty cs hs
    obtain⟨hb,h⟩:=bh h
    obtain rfl:=qB h
    simp only [qQ] at hb
    obtain⟨⟨⟨h1,h2⟩,h3⟩,h4⟩:=hb
    obtain rfl:=qY h1
    exact nl ho (aW hT ht) hp hs rfl h2 (qY h3) (qW h4)
   ·cases h
  ·cases h
 ·rename_i t len parts ho
  split at h
  ·rename_i e n0 sz z ht
   split at h
   ·rename_i ei xs l hei hz
    split at h
    ·rename_i r hr
     split at h
     rename_i ep bd hs
     obtain⟨hb,h⟩:=bh h
     obtain rfl:=qB h
     simp only [qQ] at hb
     obtain⟨⟨⟨⟨⟨h1,h2⟩,h3⟩,h4⟩,h5⟩,h6⟩:=hb
     have he:(s.σ (ij B o)).ep=ep:=by rw [hs]
     rw [<- he]
     have g1:0<ei.n:=qW h1
     exact ow ho (aW hT ht) rfl (aW hT hei) (by simpa using Nat.ne_of_gt g1) (qW h2) (qW h3) (t6 hz) (by rw [hr,lU _ _ _ (qY h4)]) (m6 _ _ _) h5 h6
    ·cases h
   ·cases h
  ·cases h
 ·rename_i args ats ho
  split at h
  ·rename_i x t ha hat
   exact Db hT ho rfl (xC ha) (xC hat) h
  ·cases h
 ·rename_i args ats ho
  split at h
  ·rename_i x y t u ha hat
   split at h
   ·rename_i k m k' n hx hy
    obtain rfl:=qB h
    exact EY ho rfl (mG ha) (mG hat) hx hy (.inl ⟨rfl,rfl⟩)
   ·cases h
  ·cases h
 ·rename_i args ats ho
  split at h
  ·rename_i x y t u ha hat
   split at h
   ·rename_i k m k' n hx hy
    obtain rfl:=qB h
    exact EY ho rfl (mG ha) (mG hat) hx hy (.inr ⟨rfl,rfl⟩)
   ·cases h
  ·cases h
 ·cases h
def RG (P:Program)(N:Nat)(ops:Array Oper)(rest:List Oper)(s:St)(K:St->List Eff->Prop):Prop:=∃Es s',gj P N ops rest s Es s'/\K s' Es
section
variable {P:Program} {N:Nat} {ops:Array Oper} {rest:List Oper} {s:St} {K:St -> List Eff -> Prop} {o:Oper}
theorem RG.nil (h:K s []):RG P N ops [] s K:=⟨[],s,.nil s,h⟩
theorem RG.opB {E:Eff}(hg:gd ops s o=some true)(hb:Cbd P o s)(h:ax P N o s E)(hr:RG P N ops rest (E.ap N o.dst s) fun s' Es=>K s' (E::Es)):RG P N ops (o::rest) s K:=by
 obtain⟨Es,s',hc,hk⟩:=hr
 exact⟨E::Es,s',.op hg hb h hc,hk⟩
theorem RG.op {E:Eff}(hv:sr o=false)(hg:gd ops s o=some true)(h:ax P N o s E)(hr:RG P N ops rest (E.ap N o.dst s) fun s' Es=>K s' (E::Es)):RG P N ops (o::rest) s K:=RG.opB hg (.inl hv) h hr
theorem RG.skip (hg:gd ops s o=some false)(hr:RG P N ops rest (Eff.skip.ap N o.dst s) fun s' Es=>K s' (Eff.skip::Es)):RG P N ops (o::rest) s K:=by
 obtain⟨Es,s',hc,hk⟩:=hr
 exact⟨_::Es,s',.skip hg hc,hk⟩
end
section
variable {β:Type}
def qk (x:AV)(k:AV->β):β :=
 match x with
 | .b p=>k (.b p)
 | .i a n=>k (.i a n)
 | .u a=>k (.u a)
 | .y a=>k (.y a)
 | .s l=>k (.s l)
 | .raw v=>k (.raw v)
 | .sl e=>k (.sl e)
 | .ro c=>k (.ro c)
 | .agg c=>k (.agg c)
 | .tup c=>k (.tup c)
 | .fn f a c=>k (.fn f a c)
 | .own i e o=>k (.own i e o)
 | .el i e a b=>k (.el i e a b)
 | .row i e a b=>k (.row i e a b)
 | .ref i e a=>k (.ref i e a)
 | .any=>k .any
theorem pg (x:AV)(k:AV->β):qk x k=k x:=by cases x <;> rfl
def iQ:List AV->(List AV->β)->β
 |[],k=>k []
 |x::xs,k=>qk x fun y=>iQ xs fun ys=>k (y::ys)
theorem fh:∀(l:List AV) (k:List AV->β),iQ l k=k l
 |[],_=>rfl
 |x::xs,k=>by rw [iQ,pg,fh xs]
def vb (x:AV)(k:AV->β):β :=
 match x with
 | .agg c=>iQ c fun c=>k (.agg c)
 | .ro c=>iQ c fun c=>k (.ro c)
 |x=>qk x k
theorem xW (x:AV)(k:AV->β):vb x k=k x:=by cases x <;> first|rfl|exact fh _ _
def my:List AV->(List AV->β)->β
 |[],k=>k []
 |x::xs,k=>vb x fun y=>my xs fun ys=>k (y::ys)
theorem nY:∀(l:List AV) (k:List AV->β),my l k=k l
 |[],_=>rfl
 |x::xs,k=>by rw [my,xW,nY xs]
def sn (x:AV)(k:AV->β):β :=
 match x with
 | .tup c=>my c fun c=>k (.tup c)
 | .fn f a c=>iQ a fun a=>iQ c fun c=>k (.fn f a c)
 |x=>vb x k
theorem kH (x:AV)(k:AV->β):sn x k=k x:=by
 cases x with
 |tup c=>exact nY c _
 |fn f a c=>simp only [sn,fh]
 |agg c=>exact fh c _
 |ro c=>exact fh c _
 |_=>rfl
def dh:List (Nat × SB)->(List (Nat × SB)->β)->β
 |[],k=>k []
 |(id,⟨e,some (.box t cs)⟩)::l,k=>iQ cs fun cs=>dh l fun l=>k ((id,⟨e,some (.box t cs)⟩)::l)
 |(id,⟨e,some (.row t m els)⟩)::l,k=>dh l fun l=>k ((id,⟨e,some (.row t m els)⟩)::l)
 |(id,⟨e,none⟩)::l,k=>dh l fun l=>k ((id,⟨e,none⟩)::l)
 |(id,⟨e,some (.ghost a b q)⟩)::l,k=>dh l fun l=>k ((id,⟨e,some (.ghost a b q)⟩)::l)
 |(id,⟨e,some (.obj o)⟩)::l,k=>dh l fun l=>k ((id,⟨e,some (.obj o)⟩)::l)
 |(id,⟨e,some (.nest t o)⟩)::l,k=>dh l fun l=>k ((id,⟨e,some (.nest t o)⟩)::l)
theorem bU:∀(l:List (Nat × SB)) (k:List (Nat × SB)->β),dh l k=k l
 |[],_=>rfl
 |(id,⟨e,some (.box t cs)⟩)::l,k=>by rw [dh,fh,bU l]
 |(id,⟨e,some (.row t m els)⟩)::l,k=>by rw [dh,bU l]
 |(id,⟨e,none⟩)::l,k=>by rw [dh,bU l]
 |(id,⟨e,some (.ghost a b q)⟩)::l,k=>by rw [dh,bU l]
 |(id,⟨e,some (.obj o)⟩)::l,k=>by rw [dh,bU l]
 |(id,⟨e,some (.nest t o)⟩)::l,k=>by rw [dh,bU l]
def jO (d:Option Nat)(k:Option Nat->β):β :=
 match d with
 |none=>k none
 |some d=>k (some d)
theorem di (d:Option Nat)(k:Option Nat->β):jO d k=k d:=by cases d <;> rfl
end
def x8 (T:TT)(B N:Nat)(ops:Array Oper):Nat->List Oper->St->List Eff->List Oper × St × List Eff
 |0,rest,s,acc=>(rest,s,acc)
 |_+1,[],s,acc=>([],s,acc)
 |k+1,o::rest,⟨ts,σ⟩,acc=>match o.guard with
  |none=>match stp T B o ⟨ts,σ⟩ with
   |some ⟨v,up,rd⟩=>sn v fun v=>dh up fun up=>jO o.dst fun d=>x8 T B N ops k rest ⟨eH N ts d v,ups σ up⟩ (⟨v,up,rd⟩::acc)
   |none=>(o::rest,⟨ts,σ⟩,acc)
  |some _=>(o::rest,⟨ts,σ⟩,acc)
theorem RG.runX {P:Program}{N:Nat}{T:TT}(hT:fW P T=true)(B:Nat){ops:Array Oper}(k:Nat):∀{rest:List Oper} {s:St} {K:St->List Eff->Prop} {acc:List Eff} {r:List Oper} {s':St} {Es:List Eff},x8 T B N ops k rest s acc=(r,s',Es)->RG P N ops r s' (fun s'' Fs=>K s'' (Es.reverseAux Fs))->RG P N ops rest s (fun s'' Fs=>K s'' (acc.reverseAux Fs)):=by
 induction k with
 |zero=>
  intro rest s K acc r s' Es h hr
  simp only [x8,vC] at h
  obtain⟨rfl,rfl,rfl⟩:=h
  exact hr
 |succ k ih=>
  intro rest s K acc r s' Es h hr
  cases rest with
  |nil=>
   simp only [x8,vC] at h
   obtain⟨rfl,rfl,rfl⟩:=h
   exact hr
  |cons o rest=>
   obtain⟨ts,σ⟩:=s
   have stay:(o::rest,(⟨ts,σ⟩:St),acc)=(r,s',Es)->RG P N ops (o::rest) ⟨ts,σ⟩ (fun s'' Fs=>K s'' (acc.reverseAux Fs)):=fun h=>by
    simp only [vC] at h
    obtain⟨rfl,rfl,rfl⟩:=h
    exact hr
   simp only [x8] at h
   split at h
   ·rename_i hg
    split at h
    ·rename_i v up rd hE
     rw [kH,bU,di] at h
     exact RG.op (fZ hE).2 (by unfold gd gd0;rw [hg,(fZ hE).1];rfl) (p7 hT hE) (ih (K:=K) (acc:=⟨v,up,rd⟩::acc) h hr)
    ·exact stay h
   ·exact stay h
theorem RG.run {P:Program}{N:Nat}{T:TT}(hT:fW P T=true)(B:Nat){ops:Array Oper}(k:Nat){rest:List Oper}{s:St}{K:St->List Eff->Prop}{r:List Oper}{s':St}{Es:List Eff}(h:x8 T B N ops k rest s []=(r,s',Es))(hr:RG P N ops r s' (fun s'' Fs=>K s'' (Es.reverseAux Fs))):RG P N ops rest s K :=
 RG.runX hT B k (K:=K) (acc:=[]) h hr
def ov (T:TT)(B N:Nat)(ops:Array Oper):Nat->List Oper->St->List Eff->List Oper × St × List Eff
 |0,rest,s,acc=>(rest,s,acc)
 |_+1,[],s,acc=>([],s,acc)
 |k+1,o::rest,⟨ts,σ⟩,acc=>match gd ops ⟨ts,σ⟩ o with
  |some true=>match stp T B o ⟨ts,σ⟩ with
   |some ⟨v,up,rd⟩=>sn v fun v=>dh up fun up=>jO o.dst fun d=>ov T B N ops k rest ⟨eH N ts d v,ups σ up⟩ (⟨v,up,rd⟩::acc)
   |none=>(o::rest,⟨ts,σ⟩,acc)
  |some false=>jO o.dst fun d=>ov T B N ops k rest ⟨eH N ts d (.tup []),σ⟩ (Eff.skip::acc)
  |none=>(o::rest,⟨ts,σ⟩,acc)
theorem RG.runFX {P:Program}{N:Nat}{T:TT}(hT:fW P T=true)(B:Nat){ops:Array Oper}(k:Nat):∀{rest:List Oper} {s:St} {K:St->List Eff->Prop} {acc:List Eff} {r:List Oper} {s':St} {Es:List Eff},ov T B N ops k rest s acc=(r,s',Es)->RG P N ops r s' (fun s'' Fs=>K s'' (Es.reverseAux Fs))->RG P N ops rest s (fun s'' Fs=>K s'' (acc.reverseAux Fs)):=by
 induction k with
 |zero=>
  intro rest s K acc r s' Es h hr
  simp only [ov,vC] at h
  obtain⟨rfl,rfl,rfl⟩:=h
  exact hr
 |succ k ih=>
  intro rest s K acc r s' Es h hr
  cases rest with
  |nil=>
   simp only [ov,vC] at h
   obtain⟨rfl,rfl,rfl⟩:=h
   exact hr
  |cons o rest=>
   obtain⟨ts,σ⟩:=s
   have stay:(o::rest,(⟨ts,σ⟩:St),acc)=(r,s',Es)->RG P N ops (o::rest) ⟨ts,σ⟩ (fun s'' Fs=>K s'' (acc.reverseAux Fs)):=fun h=>by
    simp only [vC] at h
    obtain⟨rfl,rfl,rfl⟩:=h
    exact hr
   simp only [ov] at h
   split at h
   ·rename_i hg
    split at h
    ·rename_i v up rd hE
     rw [kH,bU,di] at h
     exact RG.op (fZ hE).2 hg (p7 hT hE) (ih (K:=K) (acc:=⟨v,up,rd⟩::acc) h hr)
    ·exact stay h
   ·rename_i hg
    rw [di] at h
    exact RG.skip hg (ih (K:=K) (acc:=Eff.skip::acc) h hr)
   ·exact stay h
theorem RG.runG {P:Program}{N:Nat}{T:TT}(hT:fW P T=true)(B:Nat){ops:Array Oper}(k:Nat){rest:List Oper}{s:St}{K:St->List Eff->Prop}{r:List Oper}{s':St}{Es:List Eff}(h:ov T B N ops k rest s []=(r,s',Es))(hr:RG P N ops r s' (fun s'' Fs=>K s'' (Es.reverseAux Fs))):RG P N ops rest s K :=
 RG.runFX hT B k (K:=K) (acc:=[]) h hr
def lkR:List (Nat × AV)->Option Nat->Option AV
 |[],_=>none
 |_,none=>none
 |p::l,some d=>cond (Nat.beq p.1 d) (some p.2) (lkR l (some d))
def Obs:List (AV × AV)->Prop
 |[]=>True
 |p::l=>p.1=p.2/\Obs l
def ms (T:TT)(B N:Nat)(R:List (Nat × AV))(ops:Array Oper):Nat->List Oper->St->List Eff->List (AV × AV)->List Oper × St × List Eff × List (AV × AV)
 |0,rest,s,acc,ob=>(rest,s,acc,ob)
 |_+1,[],s,acc,ob=>([],s,acc,ob)
 |k+1,o::rest,⟨ts,σ⟩,acc,ob=>match gd ops ⟨ts,σ⟩ o with
  |some true=>match stp T B o ⟨ts,σ⟩ with
   |some ⟨v,up,rd⟩=>match lkR R o.dst with
    |none=>sn v fun v=>dh up fun up=>jO o.dst fun d=>ms T B N R ops k rest ⟨eH N ts d v,ups σ up⟩ (⟨v,up,rd⟩::acc) ob
    |some y=>dh up fun up=>jO o.dst fun d=>ms T B N R ops k rest ⟨eH N ts d y,ups σ up⟩ (⟨y,up,rd⟩::acc) ((v,y)::ob)
   |none=>(o::rest,⟨ts,σ⟩,acc,ob)
  |some false=>jO o.dst fun d=>ms T B N R ops k rest ⟨eH N ts d (.tup []),σ⟩ (Eff.skip::acc) ob
  |none=>(o::rest,⟨ts,σ⟩,acc,ob)
theorem Cw {T:TT}{B N:Nat}{R:List (Nat × AV)}{ops:Array Oper}(k:Nat):∀{rest:List Oper} {s:St} {acc:List Eff} {ob:List (AV × AV)} {r:List Oper} {s':St} {Es:List Eff} {ob':List (AV × AV)},ms T B N R ops k rest s acc ob=(r,s',Es,ob')->Obs ob'->Obs ob:=by
 induction k with
 |zero=>
  intro rest s acc ob r s' Es ob' h ho
  simp only [ms,vC] at h
  obtain⟨_,_,_,rfl⟩:=h
  exact ho
 |succ k ih=>
  intro rest s acc ob r s' Es ob' h ho
  cases rest with
  |nil=>
   simp only [ms,vC] at h
   obtain⟨_,_,_,rfl⟩:=h
   exact ho
  |cons o rest=>
   obtain⟨ts,σ⟩:=s
   have stay:(o::rest,(⟨ts,σ⟩:St),acc,ob)=(r,s',Es,ob')->Obs ob:=fun h=>by
    simp only [vC] at h
    obtain⟨_,_,_,rfl⟩:=h
    exact ho
   simp only [ms] at h
   split at h
   ·split at h
    ·split at h
     ·rw [kH,bU,di] at h
      exact ih h ho
     ·rw [bU,di] at h
      exact (ih h ho).2
    ·exact stay h
   ·rw [di] at h
    exact ih h ho
   ·exact stay h
theorem RG.runRX {P:Program}{N:Nat}{T:TT}(hT:fW P T=true)(B:Nat){R:List (Nat × AV)}{ops:Array Oper}(k:Nat):∀{rest:List Oper} {s:St} {K:St->List Eff->Prop} {acc:List Eff} {ob:List (AV × AV)} {r:List Oper} {s':St} {Es:List Eff} {ob':List (AV × AV)},ms T B N R ops k rest s acc ob=(r,s',Es,ob')->Obs ob'->RG P N ops r s' (fun s'' Fs=>K s'' (Es.reverseAux Fs))->RG P N ops rest s (fun s'' Fs=>K s'' (acc.reverseAux Fs)):=by
 induction k with
 |zero=>
  intro rest s K acc ob r s' Es ob' h ho hr
  simp only [ms,vC] at h
  obtain⟨rfl,rfl,rfl,rfl⟩:=h
  exact hr
 |succ k ih=>
  intro rest s K acc ob r s' Es ob' h ho hr
  cases rest with
  |nil=>
   simp only [ms,vC] at h
   obtain⟨rfl,rfl,rfl,rfl⟩:=h
   exact hr
  |cons o rest=>
   obtain⟨ts,σ⟩:=s
   have stay:(o::rest,(⟨ts,σ⟩:St),acc,ob)=(r,s',Es,ob')->RG P N ops (o::rest) ⟨ts,σ⟩ (fun s'' Fs=>K s'' (acc.reverseAux Fs)):=fun h=>by
    simp only [vC] at h
    obtain⟨rfl,rfl,rfl,rfl⟩:=h
    exact hr
   simp only [ms] at h
   split at h
   ·rename_i hg
    split at h
    ·rename_i v up rd hE
     split at h
     ·rw [kH,bU,di] at h
      exact RG.op (fZ hE).2 hg (p7 hT hE) (ih (K:=K) (acc:=⟨v,up,rd⟩::acc) h ho hr)
     ·rename_i y hy
      rw [bU,di] at h
      have e:v=y:=(Cw k h ho).1
      subst e
      exact RG.op (fZ hE).2 hg (p7 hT hE) (ih (K:=K) (acc:=⟨v,up,rd⟩::acc) h ho hr)
    ·exact stay h
   ·rename_i hg
    rw [di] at h
    exact RG.skip hg (ih (K:=K) (acc:=Eff.skip::acc) h ho hr)
   ·exact stay h
theorem RG.runO {P:Program}{N:Nat}{T:TT}(hT:fW P T=true)(B:Nat)(R:List (Nat × AV)){ops:Array Oper}(k:Nat){rest:List Oper}{s:St}{K:St->List Eff->Prop}{r:List Oper}{s':St}{Es:List Eff}{ob:List (AV × AV)}(h:ms T B N R ops k rest s [] []=(r,s',Es,ob))(ho:Obs ob)(hr:RG P N ops r s' (fun s'' Fs=>K s'' (Es.reverseAux Fs))):RG P N ops rest s K :=
 RG.runRX hT B k (K:=K) (acc:=[]) (ob:=[]) h ho hr
theorem AW.text {P:Program}{N id:Nat}{ops:Array Oper}{Q:Exit->St->Prop}{s:St}(h:RG P N ops ops.toList s fun s' _=>Q .normal s'):AW P N (.region id ops false) Q s:=by
 obtain⟨Es,s',hc,hk⟩:=h
 exact AW.region_text hc hk
theorem AW.draws {P:Program}(hm:P.follows .mixedOrders=true){N id:Nat}{ops:Array Oper}{Q:Exit->St->Prop}{s:St}(h:RG P N ops ops.toList s fun s' Es=>dC ops (ops.toList.zip Es)=true/\Q .normal s'):AW P N (.region id ops true) Q s:=by
 obtain⟨Es,s',hc,ho,hk⟩:=h
 exact AW.region_any hm hc ho hk
section
variable {β:Type}
def eA:Nat->(Nat->β)->β
 |0,k=>k 0
 |n+1,k=>eA n fun m=>k (m+1)
theorem dP:∀(n:Nat) (k:Nat->β),eA n k=k n
 |0,k=>rfl
 |n+1,k=>dP n _
def qx (x:AV)(k:AV->β):β :=
 match x with
 | .own i e o=>eA e fun e=>eA o fun o=>k (.own i e o)
 | .el i e a b=>eA e fun e=>k (.el i e a b)
 | .row i e a b=>eA e fun e=>k (.row i e a b)
 | .ref i e a=>eA e fun e=>k (.ref i e a)
 |x=>qk x k
theorem oL (x:AV)(k:AV->β):qx x k=k x:=by
 cases x <;> simp only [qx,dP,pg]
def i6:List AV->(List AV->β)->β
 |[],k=>k []
 |x::xs,k=>qx x fun y=>i6 xs fun ys=>k (y::ys)
theorem jU:∀(l:List AV) (k:List AV->β),i6 l k=k l
 |[],_=>rfl
 |x::xs,k=>by simp only [i6,oL,jU xs]
def rj (x:AV)(k:AV->β):β :=
 match x with
 | .agg c=>i6 c fun c=>k (.agg c)
 | .tup c=>i6 c fun c=>k (.tup c)
 |x=>qx x k
theorem kS (x:AV)(k:AV->β):rj x k=k x:=by
 cases x <;> simp only [rj,oL,jU]
def cu:List (Nat × SB)->(List (Nat × SB)->β)->β
 |[],k=>k []
 |(id,⟨e,some (.box t cs)⟩)::l,k=>eA e fun e=>i6 cs fun cs=>cu l fun l=>k ((id,⟨e,some (.box t cs)⟩)::l)
 |(id,⟨e,some (.row t m els)⟩)::l,k=>eA e fun e=>cu l fun l=>k ((id,⟨e,some (.row t m els)⟩)::l)
 |(id,⟨e,none⟩)::l,k=>eA e fun e=>cu l fun l=>k ((id,⟨e,none⟩)::l)
 |(id,⟨e,some (.ghost a b q)⟩)::l,k=>eA e fun e=>cu l fun l=>k ((id,⟨e,some (.ghost a b q)⟩)::l)
 |(id,⟨e,some (.obj o)⟩)::l,k=>eA e fun e=>cu l fun l=>k ((id,⟨e,some (.obj o)⟩)::l)
 |(id,⟨e,some (.nest t o)⟩)::l,k=>eA e fun e=>cu l fun l=>k ((id,⟨e,some (.nest t o)⟩)::l)
theorem co:∀(l:List (Nat × SB)) (k:List (Nat × SB)->β),cu l k=k l
 |[],_=>rfl
 |(id,⟨e,some (.box t cs)⟩)::l,k=>by simp only [cu,dP,jU,co l]
 |(id,⟨e,some (.row t m els)⟩)::l,k=>by simp only [cu,dP,co l]
 |(id,⟨e,none⟩)::l,k=>by simp only [cu,dP,co l]
 |(id,⟨e,some (.ghost a b q)⟩)::l,k=>by simp only [cu,dP,co l]
 |(id,⟨e,some (.obj o)⟩)::l,k=>by simp only [cu,dP,co l]
 |(id,⟨e,some (.nest t o)⟩)::l,k=>by simp only [cu,dP,co l]
end
def fA (s:St)(c:Call):Option (FuncId × List AV) :=
 match c.callee with
 | .value fop=>match s.ev fop with
  | .fn f first caps=>some (f,first++(c.args.toList.map s.ev++caps))
  |_=>none
 |_=>none
section
variable {P:Program} {N:Nat} {ops:Array Oper} {rest:List Oper} {s:St} {K:St -> List Eff -> Prop} {o:Oper}
theorem RG.opx {E:Eff}{d:Option Nat}(hg:gd ops s o=some true)(h:ax P N o s E)(hd:o.dst=d)(hr:RG P N ops rest ⟨eH N s.ts d E.val,ups s.σ E.up⟩ fun s' Es=>K s' (E::Es))(hv:sr o=false:=by rfl):RG P N ops (o::rest) s K:=by
  subst hd
  exact RG.op hv hg h hr
theorem RG.call {c:Call}{f:FuncId}{xs ys zs:List AV}{l:List Nat}{r:AV}(hg:gd ops s o=some true)(ho:o.op = .call c)(ha:fA s c=some (f,xs))(hz:fzL s.σ 6 xs=some (ys,l))(hy:ys=zs)(h:aa P f zs r)(hflat:r.flat=true)
  {d:Option Nat} (hd:o.dst=d) (hr:RG P N ops rest ⟨eH N s.ts d r,s.σ⟩ fun s' Es=>K s' (⟨r,[],l⟩::Es)):RG P N ops (o::rest) s K:=by
 subst hy hd
 unfold fA at ha
 split at ha
 ·rename_i fop hc
  split at ha
  ·rename_i f' first caps hf
   simp only [qU,vC] at ha
   obtain⟨rfl,rfl⟩:=ha
   exact RG.opB hg (h.bd ho hc hf) (vg ho hc hf (t6 hz) h hflat) hr
  ·cases ha
 ·cases ha
theorem RG.callM {c:Call}{f:FuncId}{xs ys zs:List AV}{l:List Nat}{r:AV}(hg:gd ops s o=some true)(ho:o.op = .call c)(ha:fA s c=some (f,xs))(hz:fzL s.σ 6 xs=some (ys,l))(hy:ys=zs)(h:aa P f zs r)
  {d:Option Nat} (hd:o.dst=d) (hr:RG P N ops rest ⟨eH N s.ts d r,ups s.σ (eR s.σ l)⟩ fun s' Es=>K s' (⟨r,eR s.σ l,[]⟩::Es)):RG P N ops (o::rest) s K:=by
 subst hy hd
 unfold fA at ha
 split at ha
 ·rename_i fop hc
  split at ha
  ·rename_i f' first caps hf
   simp only [qU,vC] at ha
   obtain⟨rfl,rfl⟩:=ha
   exact RG.opB hg (h.bd ho hc hf) (tc ho hc hf (t6 hz) h) hr
  ·cases ha
 ·cases ha
theorem RG.opS {ts:Nat->AV}{σ:Sto}{v:AV}{up:List (Nat × SB)}{rd:List Nat}{d:Option Nat}(hg:gd ops ⟨ts,σ⟩ o=some true)(h:ax P N o ⟨ts,σ⟩ ⟨v,up,rd⟩)(hd:o.dst=d)(hr:RG P N ops rest ⟨eH N ts d v,ups σ up⟩ fun s' Es=>K s' (⟨v,up,rd⟩::Es))(hv:sr o=false:=by rfl):RG P N ops (o::rest) ⟨ts,σ⟩ K:=RG.opx hg h hd hr hv
theorem RG.opE {ts:Nat->AV}{σ:Sto}{v:AV}{up:List (Nat × SB)}{rd:List Nat}{d:Option Nat}(hg:gd ops ⟨ts,σ⟩ o=some true)(hb:Cbd P o ⟨ts,σ⟩)(h:ax P N o ⟨ts,σ⟩ ⟨v,up,rd⟩)(hd:o.dst=d)(hr:RG P N ops rest ⟨eH N ts d v,ups σ up⟩ fun s' Es=>K s' (⟨v,up,rd⟩::Es)):RG P N ops (o::rest) ⟨ts,σ⟩ K:=by
 subst hd
 exact RG.opB hg hb h hr
theorem RG.callS {ts:Nat->AV}{σ:Sto}{c:Call}{f:FuncId}{xs ys zs:List AV}{l:List Nat}{r:AV}(hg:gd ops ⟨ts,σ⟩ o=some true)(ho:o.op = .call c)(ha:fA ⟨ts,σ⟩ c=some (f,xs))(hz:fzL σ 6 xs=some (ys,l))(hy:ys=zs)(h:aa P f zs r)(hflat:r.flat=true){d:Option Nat}(hd:o.dst=d)
  (hr:RG P N ops rest ⟨eH N ts d r,σ⟩ fun s' Es=>K s' (⟨r,[],l⟩::Es)):RG P N ops (o::rest) ⟨ts,σ⟩ K:=RG.call hg ho ha hz hy h hflat hd hr
theorem RG.callMS {ts:Nat->AV}{σ:Sto}{c:Call}{f:FuncId}{xs ys zs:List AV}{l:List Nat}{r:AV}{up:List (Nat × SB)}(hg:gd ops ⟨ts,σ⟩ o=some true)(ho:o.op = .call c)(ha:fA ⟨ts,σ⟩ c=some (f,xs))(hz:fzL σ 6 xs=some (ys,l))(hy:ys=zs)(hu:cu (eR σ l) some=some up)(h:aa P f zs r){d:Option Nat}(hd:o.dst=d)
  (hr:RG P N ops rest ⟨eH N ts d r,ups σ up⟩ fun s' Es=>K s' (⟨r,up,[]⟩::Es)):RG P N ops (o::rest) ⟨ts,σ⟩ K:=by
 rw [co] at hu
 obtain rfl:=qB hu
 exact RG.callM hg ho ha hz hy h hd hr
end
theorem AW.condT {P:Program}{N:Nat}{x:Operand}{y z:Code}{Q:Exit->St->Prop}{s:St}(hc:s.ev x = .b true)(h:AW P N y Q s):AW P N (.cond x y z) Q s:=AW.cond hc (fun _=>h) (fun e=>by cases e)
theorem AW.condF {P:Program}{N:Nat}{x:Operand}{y z:Code}{Q:Exit->St->Prop}{s:St}(hc:s.ev x = .b false)(h:AW P N z Q s):AW P N (.cond x y z) Q s:=AW.cond hc (fun e=>by cases e) (fun _=>h)
theorem aa.of_bodyN {P : Program} {f : FuncId} {fn : Func} {c : Code} {args : List AV} {r : AV} {N : Nat} (hf : P.funcs[f]? = some fn) (hb : fn.body = some c) (hn : (fn.name == "runtime.NumGoroutine") = false) (hN : fn.ntmps = N) (hlen : Nat.ble args.length N = true)
  (h:AW P N c (yx P fn r) (st0 args)):aa P f args r:=by
 subst hN
 exact aa.of_body hf hb hn (qW hlen) h
theorem G9 {P:Program}{fn:Func}{t:Tmp}{s:St}{p:Bool}(hr:fn.results = #[.tmp t])(hs:s.ts t = .b p)(hp:p=true):yx P fn (.b true) .ret s :=
 ⟨.inr rfl,_,_,pV hr s,by rw [hs,hp];exact .b true⟩
theorem Au (W:World)(F:Nat->Prop):au W F (.sl []) (.slice none 0 0):=by
 refine .sl [] none 0 0 0 0 (fun _ _=>.nilIface) (by simp) (by decide) (by simp) ?_ ?_ ?_ ?_ <;> intros <;> simp_all
inductive Rn (σ σ':Sto):AV->AV->Prop where
 |any (x:AV):Rn σ σ' x .any
 |pu {x:AV} (h:x.pu1=true):Rn σ σ' x x
 |nil:Rn σ σ' (.raw (.slice none 0 0)) (.sl [])
 |own {id ep ep' off:Nat} {bd bd':aE} (h:σ id=⟨ep,some bd⟩) (h':σ' id=⟨ep',some bd'⟩):Rn σ σ' (.own id ep off) (.own id ep' off)
 |el {id ep ep' k j t m:Nat} {els:List (List AV)} (h:σ id=⟨ep,some (.row t m els)⟩) (h':σ' id=⟨ep',some (.row t m els)⟩):Rn σ σ' (.el id ep k j) (.el id ep' k j)
 |row {id ep ep' off n t m:Nat} {els:List (List AV)} (h:σ id=⟨ep,some (.row t m els)⟩) (h':σ' id=⟨ep',some (.row t m els)⟩):Rn σ σ' (.row id ep off n) (.row id ep' off n)
 |rowT {id ep ep' off n t m:Nat} {els els':List (List AV)} (h:σ id=⟨ep,some (.row t m els)⟩) (h':σ' id=⟨ep',some (.row t m els')⟩) (hn:off+n<=els'.length):Rn σ σ' (.row id ep off n) (.row id ep' off n)
 |rowN {id ep ep' off n t t':Nat} {els els':List AV} (h:σ id=⟨ep,some (.nest t els)⟩) (h':σ' id=⟨ep',some (.nest t' els')⟩) (hl:els'.length=els.length):Rn σ σ' (.row id ep off n) (.row id ep' off n)
 |ref {id ep ep':Nat} {k:RK} {bd bd':aE} (h:σ id=⟨ep,some bd⟩) (h':σ' id=⟨ep',some bd'⟩):Rn σ σ' (.ref id ep k) (.ref id ep' k)
 |agg {cs cs':List AV} (hl:cs'.length=cs.length) (h1:∀(j:Nat) (x:AV),cs'[j]?=some x->x.one=true) (h:∀(j:Nat) (x x':AV),cs[j]?=some x->cs'[j]?=some x'->Rn σ σ' x x'):Rn σ σ' (.agg cs) (.agg cs')
 |fn {f:FuncId} {a a' c c':List AV} (hl:a'.length=a.length) (hl':c'.length=c.length) (h:∀(j:Nat) (x x':AV),a[j]?=some x->a'[j]?=some x'->Rn σ σ' x x') (h':∀(j:Nat) (x x':AV),c[j]?=some x->c'[j]?=some x'->Rn σ σ' x x'):Rn σ σ' (.fn f a c) (.fn f a' c')
theorem Rn.is {σ σ':Sto}{x y:AV}(e:x=y)(h:y.pu1=true):Rn σ σ' x y:=by subst e;exact .pu h
theorem Rn.ownIs {σ σ':Sto}{x:AV}{id ep ep' off:Nat}{bd bd':aE}(e:x = .own id ep off)(h:σ id=⟨ep,some bd⟩)(h':σ' id=⟨ep',some bd'⟩):Rn σ σ' x (.own id ep' off):=e ▸ .own h h'
theorem Rn.refIs {σ σ':Sto}{x:AV}{id ep ep':Nat}{k:RK}{bd bd':aE}(e:x = .ref id ep k)(h:σ id=⟨ep,some bd⟩)(h':σ' id=⟨ep',some bd'⟩):Rn σ σ' x (.ref id ep' k):=e ▸ .ref h h'
theorem Rn.rowIs {σ σ':Sto}{x:AV}{id ep ep' off n t m:Nat}{els:List (List AV)}(e:x = .row id ep off n)(h:σ id=⟨ep,some (.row t m els)⟩)(h':σ' id=⟨ep',some (.row t m els)⟩):Rn σ σ' x (.row id ep' off n):=e ▸ .row h h'
theorem Rn.rowTIs {σ σ':Sto}{x:AV}{id ep ep' off n t m:Nat}{els els':List (List AV)}(e:x = .row id ep off n)(h:σ id=⟨ep,some (.row t m els)⟩)(h':σ' id=⟨ep',some (.row t m els')⟩)(hn:off+n<=els'.length):Rn σ σ' x (.row id ep' off n):=e ▸ .rowT h h' hn
theorem Rn.rel {W:World}{F:Nat->Prop}{μ:Mu}{σ σ':Sto}{x x':AV}(h:Rn σ σ' x x'):∀{v:Value},Rel W F μ σ x v->Rel W F μ σ' x' v:=by
 induction h with
 |any x=>exact fun _=>.any _
 |pu h=>exact fun hx=>.pure (kD h hx)
 |nil=>
  intro v hx
  rw [hx.raw']
  exact .pure (Au _ _)
 |@own id ep ep' off bd bd' h h'=>
  intro v hx
  cases hx with
  |pure hx=>cases hx
  |own _ _ _ _ he h1 hv=>
   obtain⟨b,c,hm,rfl⟩:=hv _ h
   exact .own _ _ _ _ (by rw [h'];exact qJ _) rfl fun _ _=>⟨b,c,hm,rfl⟩
 |@ref id ep ep' k bd bd' h h'=>
  intro v hx
  cases hx with
  |pure hx=>cases hx
  |ref _ _ _ _ he h1 hv=>
   obtain⟨b,c,hm,rfl⟩:=hv _ h
   exact .ref _ _ _ _ (by rw [h'];exact qJ _) h1 fun _ _=>⟨b,c,hm,rfl⟩
 |@el id ep ep' k j t m els h h'=>
  intro v hx
  cases hx with
  |pure hx=>cases hx
  |el _ _ _ _ _ he h1 hv=>
   obtain⟨b,c,hm,rfl⟩:=hv _ _ _ h rfl
   refine .el _ _ _ _ _ (by rw [h'];exact qJ _) rfl fun bd1 m1 l1 h2 hL=>⟨b,c,hm,?_⟩
   rw [h'] at h2
   simp only [SB.mk.injEq,qU,true_and] at h2
   subst h2
   simp only [aE.rowL,qU,vC] at hL
   rw [hL.1]
 |@row id ep ep' off n t m els h h'=>
  intro v hx
  cases hx with
  |pure hx=>cases hx
  |row _ _ _ _ _ he h1 hv=>
   have hv:=hv _ _ _ h rfl
   refine .row _ _ _ _ _ (by rw [h'];exact qJ _) h1 fun bd1 m1 l1 h2 hL=>?_
   rw [h'] at h2
   simp only [SB.mk.injEq,qU,true_and] at h2
   subst h2
   simp only [aE.rowL,qU,vC] at hL
   rw [<- hL.1,<- hL.2]
   exact hv
 |@rowT id ep ep' off n t m els els' h h' hn=>
  intro v hx
  cases hx with
  |pure hx=>cases hx
  |row _ _ _ _ _ he h1 hv=>
   have hv:=hv _ _ _ h rfl
   refine .row _ _ _ _ _ (by rw [h'];exact qJ _) h1 fun bd1 m1 l1 h2 hL=>?_
   rw [h'] at h2
   simp only [SB.mk.injEq,qU,true_and] at h2
   subst h2
   simp only [aE.rowL,qU,vC] at hL
   rw [<- hL.1,<- hL.2]
   exact⟨hn,hv.2⟩
 |@rowN id ep ep' off n t t' els els' h h' hl=>
  intro v hx
  cases hx with
  |pure hx=>cases hx
  |row _ _ _ _ _ he h1 hv=>
   have hv:=hv _ _ _ h rfl
   refine .row _ _ _ _ _ (by rw [h'];exact qJ _) h1 fun bd1 m1 l1 h2 hL=>?_
   rw [h'] at h2
   simp only [SB.mk.injEq,qU,true_and] at h2
   subst h2
   simp only [aE.rowL,qU,vC] at hL
   rw [<- hL.1,<- hL.2,hl]
   exact hv
 |@agg cs cs' hl h1 h ih=>
  intro v hx
  obtain⟨vs,rfl,hlv,_,hr⟩:=hx.agg'
  refine .agg _ _ (by rw [hlv,hl]) h1 fun j x' v hj hv=>?_
  obtain⟨x,hxj⟩:∃x,cs[j]?=some x:=⟨_,qA (by rw [<- hl];exact (qD.1 hj).1)⟩
  exact ih j x x' hxj hj (hr j x v hxj hv)
 |@fn f a a' c c' hl hl' h h' ih ih'=>
  intro v hx
  obtain⟨fs,cs,rfl,hf,hc,hr,hr'⟩:=hx.fn'
  refine .fn _ _ _ _ _ (by rw [hf,hl]) (by rw [hc,hl']) (fun j x' v hj hv=>?_) (fun j x' v hj hv=>?_)
  ·obtain⟨x,hxj⟩:∃x,a[j]?=some x:=⟨_,qA (by rw [<- hl];exact (qD.1 hj).1)⟩
   exact ih j x x' hxj hj (hr j x v hxj hv)
  ·obtain⟨x,hxj⟩:∃x,c[j]?=some x:=⟨_,qA (by rw [<- hl'];exact (qD.1 hj).1)⟩
   exact ih' j x x' hxj hj (hr' j x v hxj hv)
inductive RnB (σ σ':Sto):aE->aE->Prop where
 |box {t:TypeId} {cs cs':List AV} (hl:cs'.length=cs.length) (h1:∀(j:Nat) (x:AV),cs'[j]?=some x->x.one=true) (h:∀(j:Nat) (x x':AV),cs[j]?=some x->cs'[j]?=some x'->Rn σ σ' x x'):RnB σ σ' (.box t cs) (.box t cs')
 |row (t:TypeId) (m:Nat) (els:List (List AV)):RnB σ σ' (.row t m els) (.row t m els)
 |rowT (t:TypeId) (m n:Nat) (els:List (List AV)):RnB σ σ' (.row t m els) (.row t m (els.take n))
 |obj (o:Obj):RnB σ σ' (.obj o) (.obj o)
 |nest {t:TypeId} {els els':List AV} (hl:els'.length=els.length) (h1:∀(j:Nat) (x:AV),els'[j]?=some x->x.one=true) (h:∀(j:Nat) (x x':AV),els[j]?=some x->els'[j]?=some x'->Rn σ σ' x x'):RnB σ σ' (.nest t els) (.nest t els')
 |ghost {id ep ep':Nat} {bd bd':aE} {q:Option (Nat × Nat)} (h:σ id=⟨ep,some bd⟩) (h':σ' id=⟨ep',some bd'⟩):RnB σ σ' (.ghost id ep q) (.ghost id ep' q)
theorem aM.take {W:World}{F:Nat->Prop}{μ:Mu}{σ σ':Sto}{p:Option (Nat × Nat)}{t m:Nat}{els:List (List AV)}(h:aM W F μ σ p (.row t m els))(n:Nat):aM W F μ σ' p (.row t m (els.take n)):=by
 have g:∀(k:Nat) (cs:List AV),(els.take n)[k]?=some cs->els[k]?=some cs:=fun k cs hk=>by
  rw [uF] at hk
  split at hk
  ·exact hk
  ·cases hk
 rcases h with⟨h1,h2⟩|⟨b,cap,cur,h1,h2,h3,h4,h5,h6,h7⟩
 ·exact .inl ⟨h1,by rw [h2,List.take_nil]⟩
 ·exact .inr ⟨b,cap,cur,h1,h2,by rw [vG];omega,h4,h5,fun k cs hk=>h6 k cs (g k cs hk),fun k cs j x hk hj=>h7 k cs j x (g k cs hk) hj⟩
structure Wk (s s':St):Prop where
 ts:∀t,Rn s.σ s'.σ (s.ts t) (s'.ts t)
 σ:∀id bd',(s'.σ id).body=some bd'->∃bd,(s.σ id).body=some bd/\RnB s.σ s'.σ bd bd'
theorem Wk.own {s s':St}(h:Wk s s'){μ:Mu}{b:Nat}(ho:Own μ s'.σ b):Own μ s.σ b:=by
 obtain⟨id,ep,bd,c,h1,h2⟩:=ho
 obtain⟨bd0,h3,_⟩:=h.σ id bd (by rw [h1])
 refine⟨id,(s.σ id).ep,bd0,c,?_,h2⟩
 rw [<- h3]
theorem Wk.stp {s s':St}(h:Wk s s')(W:World)(F:Nat->Prop)(μ:Mu):Stq W F μ s.σ W F μ s'.σ :=
 ⟨Kp.refl _ _,fun _ h=>h,fun _ h=>.inl h,fun _ hb=>.inl (h.own hb)⟩
theorem Wk.rs {s s':St}(h:Wk s s'){N:Nat}{W:World}{F:Nat->Prop}{μ:Mu}{a:Act}(hr:RS N W F μ s a):RS N W F μ s' a:=by
 refine⟨fun t=>(h.ts t).rel (hr.ts t),hr.defers.go (h.stp W F μ),hr.n,⟨fun id ep bd hb=>?_,fun b hb=>hr.inv.apart b (h.own hb),fun id id' b c c' h1 h2=>?_,hr.inv.old,hr.inv.lay⟩⟩
 ·obtain⟨bd0,h3,hR⟩:=h.σ id bd (by rw [hb])
  have hB:=hr.inv.body id (s.σ id).ep bd0 (by rw [<- h3])
  cases hR with
  |row t m els=>exact hB
  |rowT t m n els=>exact hB.take n
  |obj o=>exact hB
  |@nest t els els' hl h1 hrn=>
   rcases hB with⟨hn,rfl⟩|⟨b,cap,cur,hp,hh,q1,q2,q3,q4⟩
   ·exact .inl ⟨hn,uD.1 hl⟩
   ·refine .inr ⟨b,cap,cur,hp,hh,by omega,q2,q3,fun k x' hk=>⟨h1 k x' hk,?_⟩⟩
    obtain⟨x,hx⟩:∃x,els[k]?=some x:=⟨_,qA (by rw [<- hl];exact (qD.1 hk).1)⟩
    obtain⟨_,v,hv,hr'⟩:=q4 k x hx
    exact⟨v,hv,(hrn k x x' hx hk).rel hr'⟩
  |ghost h h'=>exact⟨hB.1,by rw [h'];exact qJ _,fun bd _=>hB.2.2 _ h⟩
  |@box t cs cs' hl h1 hrn=>
   obtain⟨b,c,vs,hm,hw,hlv,hv⟩:=hB
   refine⟨b,c,vs,hm,hw,by rw [hlv,hl],fun j x' v hj hvj=>⟨h1 j x' hj,?_⟩⟩
   obtain⟨x,hxj⟩:∃x,cs[j]?=some x:=⟨_,qA (by rw [<- hl];exact (qD.1 hj).1)⟩
   exact (hrn j x x' hxj hj).rel (hv j x v hxj hvj).2
 ·have g:∀ id,(s'.σ id).body.isSome = true -> (s.σ id).body.isSome = true := fun id hb=>by
   obtain⟨bd',e⟩:=vY.1 hb
   obtain⟨bd,e',_⟩:=h.σ id bd' e
   rw [e'];rfl
  exact hr.inv.inj id id' b c c' (g id h1) (g id' h2)
theorem AW.weak {P:Program}{N:Nat}{c:Code}{Q:Exit->St->Prop}{s s':St}(h:Wk s s')(h':AW P N c Q s'):AW P N c Q s:=by
 intro W F μ a hr
 refine Code.wpA_mono ?_ (h' W F μ a (h.rs hr))
 rintro e a' W' ⟨F',μ',s'',hq,hr',hs⟩
 exact⟨F',μ',s'',hq,hr',((h.stp W F μ).d rfl).trans hs⟩
open Classical in
theorem AW.loopS {P:Program}{N:Nat}{Q:Exit->St->Prop}{s:St}{c:Code}{ι:Type}(st:ι->St)(J:ι->Prop)(m:ι->Nat)(i0:ι)(h0:J i0)(hw:Wk s (st i0))
  (round:∀i,J i->AW P N c (hZ (fun s'=>∃i',(J i'/\m i'<m i)/\Wk s' (st i')) Q) (st i)):AW P N (.loop c) Q s:=by
 intro W F μ a hr ro hn
 let R:Nat->Act->World->Prop:=fun n a' W'=>∃F' μ' i,m i=n/\J i/\RS N W' F' μ' (st i) a'/\Std W F μ s.σ a W' F' μ' (st i).σ a'
 refine wpIn_loop (fun a' W'=>∃n,R n a' W') (fun a' W'=>if h:∃n,R n a' W' then (AB _ h).choose else 0) ⟨_,F,μ,i0,rfl,h0,hw.rs hr,(hw.stp W F μ).d rfl⟩ ?_
 intro a1 W1 h
 simp only [dif_pos h]
 obtain⟨F1,μ1,i,hm,hI,hr1,hs1⟩:=(AB _ h).choose_spec.1
 rw [<- hm]
 refine wpIn_mono (round i hI W1 F1 μ1 a1 hr1 ro hn) ?_
 rintro e a' W' ⟨F',μ',s',hq,hr',hs⟩
 cases e with
 |normal=>
  obtain⟨i',⟨hI',hlt⟩,hw'⟩:=hq
  have hR:R (m i') a' W':=⟨F',μ',i',rfl,hI',hw'.rs hr',(hs1.trans hs).trans ((hw'.stp W' F' μ').d rfl)⟩
  refine⟨⟨_,hR⟩,?_⟩
  simp only [dif_pos (show ∃n,R n a' W' from ⟨_,hR⟩)]
  exact Nat.lt_of_le_of_lt ((AB (fun n=>R n a' W') ⟨_,hR⟩).choose_spec.2 _ hR) hlt
 |_=>exact⟨F',μ',s',hq,hr',hs1.trans hs⟩
def lkT:List (Nat × AV)->Nat->AV
 |[],_=>.any
 |p::l,t=>cond (Nat.beq t p.1) p.2 (lkT l t)
def lkB:List (Nat × SB)->Nat->SB
 |[],_=>⟨0,none⟩
 |p::l,id=>cond (Nat.beq id p.1) p.2 (lkB l id)
abbrev stL (l:List (Nat × AV))(b:List (Nat × SB)):St:=⟨lkT l,lkB b⟩
def WkT (s:St)(σ':Sto):List (Nat × AV)->Prop
 |[]=>True
 |p::l=>Rn s.σ σ' (s.ts p.1) p.2/\WkT s σ' l
inductive iv (s:St)(σ':Sto)(id:Nat):SB->Prop where
 |box {t:TypeId} {cs cs':List AV} {ep ep':Nat} (h:s.σ id=⟨ep,some (.box t cs)⟩) (hl:cs'.length=cs.length) (h1:cs'.all AV.one=true) (hc:∀(j:Nat) (x x':AV),cs[j]?=some x->cs'[j]?=some x'->Rn s.σ σ' x x'):iv s σ' id ⟨ep',some (.box t cs')⟩
 |row {t:TypeId} {m ep ep':Nat} {els els':List (List AV)} (h:s.σ id=⟨ep,some (.row t m els)⟩) (he:els=els'):iv s σ' id ⟨ep',some (.row t m els')⟩
 |rowT {t:TypeId} {m ep ep' n:Nat} {els els':List (List AV)} (h:s.σ id=⟨ep,some (.row t m els)⟩) (he:els.take n=els'):iv s σ' id ⟨ep',some (.row t m els')⟩
 |obj {ep ep':Nat} {o o':Obj} (h:s.σ id=⟨ep,some (.obj o)⟩) (he:o=o'):iv s σ' id ⟨ep',some (.obj o')⟩
 |nest {t:TypeId} {ep ep':Nat} {els els':List AV} (h:s.σ id=⟨ep,some (.nest t els)⟩) (hl:els'.length=els.length) (h1:∀(j:Nat) (x:AV),els'[j]?=some x->x.one=true) (hc:∀(j:Nat) (x x':AV),els[j]?=some x->els'[j]?=some x'->Rn s.σ σ' x x'):iv s σ' id ⟨ep',some (.nest t els')⟩
 |none (ep:Nat):iv s σ' id ⟨ep,none⟩
 |ghost {ep ep' i e e':Nat} {bd bd':aE} {q:Option (Nat × Nat)} (h:s.σ id=⟨ep,some (.ghost i e q)⟩) (hx:s.σ i=⟨e,some bd⟩) (hx':σ' i=⟨e',some bd'⟩):iv s σ' id ⟨ep',some (.ghost i e' q)⟩
def WkB (s:St)(σ':Sto):List (Nat × SB)->Prop
 |[]=>True
 |p::l=>iv s σ' p.1 p.2/\WkB s σ' l
theorem mU {s:St}{σ':Sto}:∀{l:List (Nat × AV)},WkT s σ' l->∀t,Rn s.σ σ' (s.ts t) (lkT l t)
 |[],_,_=>.any _
 |p::l,h,t=>by
  show Rn s.σ σ' (s.ts t) (cond (Nat.beq t p.1) p.2 (lkT l t))
  cases hb:Nat.beq t p.1
  ·exact mU h.2 t
  ·rw [qY hb]
   exact h.1
theorem fm {s:St}{σ':Sto}:∀{l:List (Nat × SB)},WkB s σ' l->∀id bd',(lkB l id).body=some bd'->∃bd,(s.σ id).body=some bd/\RnB s.σ σ' bd bd'
 |[],_,id,bd',h=>by cases h
 |p::l,h,id,bd',hb=>by
  replace hb:(cond (Nat.beq id p.1) p.2 (lkB l id)).body=some bd':=hb
  cases hq:Nat.beq id p.1
  ·rw [hq] at hb
   exact fm h.2 id bd' hb
  ·rw [hq] at hb
   replace hb:p.2.body=some bd':=hb
   rw [qY hq]
   have h1:=h.1
   obtain⟨pid,psb⟩:=p
   cases h1 with
   |box h hl h1 hc=>
    obtain rfl:=qB hb
    exact⟨_,by rw [h],.box hl (fun j x hj=>qV.1 h1 x (qN hj)) hc⟩
   |row h he=>
    obtain rfl:=qB hb
    subst he
    exact⟨_,by rw [h],.row _ _ _⟩
   |rowT h he=>
    obtain rfl:=qB hb
    subst he
    exact⟨_,by rw [h],.rowT _ _ _ _⟩
   |obj h he=>
    obtain rfl:=qB hb
    subst he
    exact⟨_,by rw [h],.obj _⟩
   |nest h hl h1 hc=>
    obtain rfl:=qB hb
    exact⟨_,by rw [h],.nest hl h1 hc⟩
   |none=>cases hb
   |ghost h hx hx'=>
    obtain rfl:=qB hb
    exact⟨_,by rw [h],.ghost hx hx'⟩
theorem iv.same {s:St}{σ':Sto}{id ep ep':Nat}{t:TypeId}{cs:List AV}(h:s.σ id=⟨ep,some (.box t cs)⟩)(h1:cs.all AV.one=true)(hp:cs.all AV.pu1=true):iv s σ' id ⟨ep',some (.box t cs)⟩ :=
 .box h rfl h1 fun j x x' hj hj'=>by
  obtain rfl:=qB (hj.symm.trans hj')
  exact .pu (qV.1 hp x (qN hj))
theorem Wk.to {s:St}{l:List (Nat × AV)}{b:List (Nat × SB)}(ht:WkT s (lkB b) l)(hB:WkB s (lkB b) b):Wk s (stL l b):=⟨mU ht,fm hB⟩
theorem AW.loopL {P:Program}{N:Nat}{Q:Exit->St->Prop}{s:St}{c:Code}{ι:Type}(T:ι->List (Nat × AV))(B:ι->List (Nat × SB))(J:ι->Prop)(m:ι->Nat)(i0:ι)(h0:J i0)(ht:WkT s (lkB (B i0)) (T i0))(hB:WkB s (lkB (B i0)) (B i0))
  (round:∀i,J i->AW P N c (hZ (fun s'=>∃i',(J i'/\m i'<m i)/\WkT s' (lkB (B i')) (T i')/\WkB s' (lkB (B i')) (B i')) Q) (stL (T i) (B i))):AW P N (.loop c) Q s:=by
 refine AW.loopS (fun i=>stL (T i) (B i)) J m i0 h0 (Wk.to ht hB) fun i hJ=>(round i hJ).mono fun ex s' hq=>?_
 cases ex with
 |normal=>
  obtain⟨i',hi,h1,h2⟩:=hq
  exact⟨i',hi,Wk.to h1 h2⟩
 |_=>exact hq
theorem AW.only {P:Program}{N:Nat}{Q:Exit->St->Prop}{s:St}{c:Code}(l:List (Nat × AV))(b:List (Nat × SB))(ht:WkT s (lkB b) l)(hB:WkB s (lkB b) b)(h:AW P N c Q (stL l b)):AW P N c Q s:=AW.weak (Wk.to ht hB) h
theorem AW.lens {P:Program}{N:Nat}{Q:Exit->St->Prop}{s:St}{c:Code}(t:Nat){els:List (List AV)}(ht:s.ts t = .sl els)(h:els.length<=9223372036854775807->AW P N c Q s):AW P N c Q s:=by
 intro W F μ a hr
 have h1:=hr.ts t
 rw [ht] at h1
 generalize a.tmps.getD t undef=v at h1
 cases h1.sl' with
 |sl _ A c m b off cell hc hm=>
  have:maxLen=9223372036854775807:=by decide
  exact h (by omega) W F μ a hr
end Go.Proofs.YtdidjpohnopihaaGreat.Sm
end
end
section
section
namespace Go.Proofs.YtdidjpohnopihaaGreat.Sm
open Go.RowKit
inductive Rm (π:List (Nat × Nat))(σ σ':Sto):AV->AV->Prop where
 |any (x:AV):Rm π σ σ' x .any
 |pu {x:AV} (h:x.pu1=true):Rm π σ σ' x x
 |nil:Rm π σ σ' (.raw (.slice none 0 0)) (.sl [])
 |ref {id id' ep ep':Nat} {k:RK} {bd bd':aE} (hm:(id,id')∈π) (h:σ id=⟨ep,some bd⟩) (h':σ' id'=⟨ep',some bd'⟩):Rm π σ σ' (.ref id ep k) (.ref id' ep' k)
 |fn {f:FuncId} {a a' c c':List AV} (hl:a'.length=a.length) (hl':c'.length=c.length) (h:∀(j:Nat) (x x':AV),a[j]?=some x->a'[j]?=some x'->Rm π σ σ' x x') (h':∀(j:Nat) (x x':AV),c[j]?=some x->c'[j]?=some x'->Rm π σ σ' x x'):Rm π σ σ' (.fn f a c) (.fn f a' c')
 |own {id id' ep ep' off:Nat} {bd bd':aE} (hm:(id,id')∈π) (h:σ id=⟨ep,some bd⟩) (h':σ' id'=⟨ep',some bd'⟩):Rm π σ σ' (.own id ep off) (.own id' ep' off)
 |row {id id' ep ep' off n t m:Nat} {els:List (List AV)} (hm:(id,id')∈π) (h:σ id=⟨ep,some (.row t m els)⟩) (h':σ' id'=⟨ep',some (.row t m els)⟩):Rm π σ σ' (.row id ep off n) (.row id' ep' off n)
 |agg {cs cs':List AV} (hl:cs'.length=cs.length) (h1:∀(j:Nat) (x:AV),cs'[j]?=some x->x.one=true) (h:∀(j:Nat) (x x':AV),cs[j]?=some x->cs'[j]?=some x'->Rm π σ σ' x x'):Rm π σ σ' (.agg cs) (.agg cs')
 |tup {cs cs':List AV} (hl:cs'.length=cs.length) (h:∀(j:Nat) (x x':AV),cs[j]?=some x->cs'[j]?=some x'->Rm π σ σ' x x'):Rm π σ σ' (.tup cs) (.tup cs')
theorem Rm.is {π:List (Nat × Nat)}{σ σ':Sto}{x y:AV}(e:x=y)(h:y.pu1=true):Rm π σ σ' x y:=by subst e;exact .pu h
theorem Rm.rel {W:World}{F:Nat->Prop}{π:List (Nat × Nat)}{μ μ':Mu}{σ σ':Sto}(hμ:∀p∈π,μ' p.2=μ p.1){x x':AV}(h:Rm π σ σ' x x'):∀{v:Value},Rel W F μ σ x v->Rel W F μ' σ' x' v:=by
 induction h with
 |any x=>exact fun _=>.any _
 |pu h=>exact fun hx=>.pure (kD h hx)
 |nil=>
  intro v hx
  rw [hx.raw']
  exact .pure (Au _ _)
 |@ref id id' ep ep' k bd bd' hm h h'=>
  intro v hx
  cases hx with
  |pure hx=>cases hx
  |ref _ _ _ _ he h1 hv=>
   obtain⟨b,c,hb,rfl⟩:=hv _ h
   exact .ref _ _ _ _ (by rw [h'];exact qJ _) h1 fun _ _=>⟨b,c,(hμ _ hm).trans hb,rfl⟩
 |@fn f a a' c c' hl hl' h h' ih ih'=>
  intro v hx
  obtain⟨fs,cs,rfl,hf,hc,hr,hr'⟩:=hx.fn'
  refine .fn _ _ _ _ _ (by rw [hf,hl]) (by rw [hc,hl']) (fun j x' v hj hv=>?_) (fun j x' v hj hv=>?_)
  ·obtain⟨x,hxj⟩:∃x,a[j]?=some x:=⟨_,qA (by rw [<- hl];exact (qD.1 hj).1)⟩
   exact ih j x x' hxj hj (hr j x v hxj hv)
  ·obtain⟨x,hxj⟩:∃x,c[j]?=some x:=⟨_,qA (by rw [<- hl'];exact (qD.1 hj).1)⟩
   exact ih' j x x' hxj hj (hr' j x v hxj hv)
 |@own id id' ep ep' off bd bd' hm h h'=>
  intro v hx
  cases hx with
  |pure hx=>cases hx
  |own _ _ _ _ he h1 hv=>
   obtain⟨b,c,hb,rfl⟩:=hv _ h
   exact .own _ _ _ _ (by rw [h'];exact qJ _) rfl fun _ _=>⟨b,c,(hμ _ hm).trans hb,rfl⟩
 |@row id id' ep ep' off n t m els hm h h'=>
  intro v hx
  cases hx with
  |pure hx=>cases hx
  |row _ _ _ _ _ he h1 hv=>
   have hv:=hv _ _ _ h rfl
   refine .row _ _ _ _ _ (by rw [h'];exact qJ _) h1 fun bd1 m1 l1 h2 hL=>?_
   rw [h'] at h2
   simp only [SB.mk.injEq,qU,true_and] at h2
   subst h2
   simp only [aE.rowL,qU,vC] at hL
   have e:=hμ _ hm
   simp only at e
   rw [<- hL.1,<- hL.2,e]
   exact hv
 |@agg cs cs' hl h1 h ih=>
  intro v hx
  obtain⟨vs,rfl,hlv,_,hr⟩:=hx.agg'
  refine .agg _ _ (by rw [hlv,hl]) h1 fun j x' v hj hv=>?_
  obtain⟨x,hxj⟩:∃x,cs[j]?=some x:=⟨_,qA (by rw [<- hl];exact (qD.1 hj).1)⟩
  exact ih j x x' hxj hj (hr j x v hxj hv)
 |@tup cs cs' hl h ih=>
  intro v hx
  obtain⟨vs,rfl,hlv,hr⟩:=hx.tup'
  refine .tup _ _ (by rw [hlv,hl]) fun j x' v hj hv=>?_
  obtain⟨x,hxj⟩:∃x,cs[j]?=some x:=⟨_,qA (by rw [<- hl];exact (qD.1 hj).1)⟩
  exact ih j x x' hxj hj (hr j x v hxj hv)
structure aj (P:Program)(f:FuncId)(args:List AV)(b0:List (Nat × SB))(r:AV)(b1:List (Nat × SB)):Prop where
 fn : ∃ fn c, P.funcs[f]? = some fn /\ fn.body = some c /\ (fn.name == "runtime.NumGoroutine") = false
 calls:∀(W:World) (F:Nat->Prop) (μ:Mu) (vs:List Value),vs.length=args.length->(∀(j:Nat) (x:AV) (v:Value),args[j]?=some x->vs[j]?=some v->Rel W F μ (lkB b0) x v)->Inv W F μ (lkB b0) ->
  Calls P f vs.toArray W fun e W'=>∃v F' μ',e = .returned v/\Inv W' F' μ' (lkB b1)/\Stq W F μ (lkB b0) W' F' μ' (lkB b1)/\Rel W' F' μ' (lkB b1) r v
def y9 (P:Program)(fn:Func)(r:AV)(b1:List (Nat × SB))(e:Exit)(s:St):Prop:=(e = .normal\/e = .ret)/\∃x,m8 P fn s x/\Rm (b1.map fun p=>(p.1,p.1)) s.σ (lkB b1) x r/\WkB s (lkB b1) b1
def stM (args:List AV)(b0:List (Nat × SB)):St:=⟨fun t=>args.getD t (.tup []),lkB b0⟩
theorem aj.of_body {P : Program} {f : FuncId} {fn : Func} {c : Code} {args : List AV} {b0 b1 : List (Nat × SB)} {r : AV} {N : Nat} (hf : P.funcs[f]? = some fn) (hb : fn.body = some c) (hn : (fn.name == "runtime.NumGoroutine") = false) (hN : fn.ntmps = N) (hlen : Nat.ble args.length N = true)
  (h:AW P N c (y9 P fn r b1) (stM args b0)):aj P f args b0 r b1:=by
 subst hN
 have hlen:=qW hlen
 refine⟨⟨fn,c,hf,hb,hn⟩,fun W F μ vs hl hv hi=>?_⟩
 have hr:RS fn.ntmps W F μ (stM args b0) { tmps:=vs.toArray++Array.replicate (fn.ntmps-vs.toArray.size) undef,defers:=[] }:=by
  refine⟨fun t=>?_,.nil,by simp;omega,hi⟩
  show Rel W F _ _ (args.getD t (.tup [])) _
  rw [vU,Array.getElem?_append,qM]
  by_cases ht:t<args.length
  ·have h1:args[t]?=some args[t]:=qA ht
   have h2:vs[t]?=some vs[t]:=qA (by omega)
   rw [if_pos (by simp;omega),uG,h1,h2]
   exact hv t _ _ h1 h2
  ·rw [if_neg (by simp;omega),vX (by omega)]
   have:(Array.replicate (fn.ntmps-vs.toArray.size) undef)[t-vs.toArray.size]?.getD undef=undef:=by
    rw [Array.getElem?_replicate]
    split <;> rfl
   rw [this]
   exact .pure (.tup [] [] rfl (by simp))
 refine jG hf hb (h W F μ _ hr) (fun _ _ h=>h.1) ?_
 rintro e W' F' μ' s' a' ⟨he,x,hres,hx,hB⟩ hr' hs
 obtain⟨v,hrun,hxv⟩:=hres W' F' μ' a' hr'
 have hwk:Wk s' ⟨fun _=>.any,lkB b1⟩:=⟨fun _=>.any _,fm hB⟩
 have hrs:=hwk.rs hr'
 have hfin:Stq W F μ (lkB b0) W' F' μ' (lkB b1):=hs.trans (hwk.stp W' F' μ')
 have hrel:Rel W' F' μ' (lkB b1) r v:=hx.rel (fun p hp=>by
  obtain⟨q,_,rfl⟩:=vI.1 hp
  rfl) hxv
 exact⟨v,hrun,v,F',μ',rfl,hrs.inv,hfin,hrel⟩
theorem Rm.congr {π:List (Nat × Nat)}{σ σ2 σ':Sto}(hσ:∀p∈π,σ2 p.1=σ p.1){x x':AV}(h:Rm π σ σ' x x'):Rm π σ2 σ' x x':=by
 induction h with
 |any x=>exact .any x
 |pu h=>exact .pu h
 |nil=>exact .nil
 |ref hm h h'=>exact .ref hm ((hσ _ hm).trans h) h'
 |fn hl hl' _ _ ih ih'=>exact .fn hl hl' ih ih'
 |own hm h h'=>exact .own hm ((hσ _ hm).trans h) h'
 |row hm h h'=>exact .row hm ((hσ _ hm).trans h) h'
 |agg hl h1 _ ih=>exact .agg hl h1 ih
 |tup hl _ ih=>exact .tup hl ih
inductive RmB (π:List (Nat × Nat))(σ σ':Sto):aE->aE->Prop where
 |box {t:TypeId} {cs cs':List AV} (hl:cs'.length=cs.length) (h1:∀(j:Nat) (x:AV),cs'[j]?=some x->x.one=true) (h:∀(j:Nat) (x x':AV),cs[j]?=some x->cs'[j]?=some x'->Rm π σ σ' x x'):RmB π σ σ' (.box t cs) (.box t cs')
 |row (t:TypeId) (m:Nat) (els:List (List AV)):RmB π σ σ' (.row t m els) (.row t m els)
 |obj (o:Obj):RmB π σ σ' (.obj o) (.obj o)
theorem RmB.congr {π:List (Nat × Nat)}{σ σ2 σ':Sto}(hσ:∀p∈π,σ2 p.1=σ p.1){x x':aE}(h:RmB π σ σ' x x'):RmB π σ2 σ' x x':=by
 cases h with
 |box hl h1 h=>exact .box hl h1 fun j x x' g g'=>(h j x x' g g').congr hσ
 |row t m els=>exact .row t m els
 |obj o=>exact .obj o
theorem RmB.rel {W:World}{F:Nat->Prop}{π:List (Nat × Nat)}{μ μ':Mu}{σ σ':Sto}(hμ:∀p∈π,μ' p.2=μ p.1){bd bd':aE}(h:RmB π σ σ' bd bd'){p:Option (Nat × Nat)}(hb:aM W F μ σ p bd):aM W F μ' σ' p bd':=by
 cases h with
 |row t m els=>exact hb
 |obj o=>exact hb
 |@box t cs cs' hl h1 hrn=>
  obtain⟨b,c,vs,hm,hw,hlv,hv⟩:=hb
  refine⟨b,c,vs,hm,hw,by rw [hlv,hl],fun j x' v hj hvj=>⟨h1 j x' hj,?_⟩⟩
  obtain⟨x,hxj⟩:∃x,cs[j]?=some x:=⟨_,qA (by rw [<- hl];exact (qD.1 hj).1)⟩
  exact (hrn j x x' hxj hj).rel hμ (hv j x v hxj hvj).2
def ik (μ:Mu):List (Nat × Nat)->Mu
 |[],_=>none
 |p::π,k=>if k=p.2 then μ p.1 else ik μ π k
theorem lG {μ:Mu}:∀{π:List (Nat × Nat)} {k:Nat} {x:Nat × Nat},ik μ π k=some x->∃p∈π,p.2=k/\μ p.1=some x
 |[],_,_,h=>by cases h
 |p::π,k,x,h=>by
  unfold ik at h
  split at h
  ·rename_i e
   exact⟨p,by simp,e.symm,h⟩
  ·obtain⟨q,h1,h2,h3⟩:=lG h
   exact⟨q,by simp [h1],h2,h3⟩
theorem dB {μ:Mu}:∀{π:List (Nat × Nat)},(π.map (·.2)).Nodup->∀p∈π,ik μ π p.2=μ p.1
 |[],_,p,hp=>by cases hp
 |q::π,hn,p,hp=>by
  rw [vE,vV] at hn
  unfold ik
  rcases vA.1 hp with rfl|hp
  ·rw [if_pos rfl]
  ·rw [if_neg (fun e=>hn.1 (by rw [<- e];exact qX (f:=(·.2)) hp))]
   exact dB hn.2 p hp
theorem Bz {W:World}{F:Nat -> Prop}{μ:Mu}{σ σ0:Sto}{π:List (Nat × Nat)}(hi:Inv W F μ σ)(hn:(π.map (·.2)).Nodup)(hn1:(π.map (·.1)).Nodup)
  (hB:∀k bd',(σ0 k).body=some bd'->(∃p∈π,p.2=k/\∃bd,(σ p.1).body=some bd/\RmB π σ σ0 bd bd')\/(∃i e q,bd' = .ghost i e q/\e<=(σ0 i).ep/\ik μ π i=q/\ik μ π k=none)):Inv W F (ik μ π) σ0:=by
 have own:∀k b c,(σ0 k).body.isSome=true->ik μ π k=some (b,c)->∃p∈π,p.2=k/\μ p.1=some (b,c)/\(σ p.1).body.isSome=true:=fun k b c hs hm=>by
  obtain⟨bd',e⟩:=vY.1 hs
  rcases hB k bd' e with⟨p,hp,rfl,bd,h1,_⟩|⟨_,_,_,_,_,_,h⟩
  ·exact⟨p,hp,rfl,(dB hn p hp).symm.trans hm,by rw [h1];rfl⟩
  ·rw [h] at hm;cases hm
 refine⟨fun k ep bd' hk=>?_,fun b ⟨k,ep,bd,c,h1,h2⟩=>?_,fun k k' b c c' h1 h2 h3 h4=>?_,hi.old,hi.lay⟩
 ·rcases hB k bd' (by rw [hk]) with⟨p,hp,rfl,bd,h1,h2⟩|⟨i,e,q,rfl,h1,h2,h3⟩
  ·rw [dB hn p hp]
   exact h2.rel (fun q hq=>dB hn q hq) (hi.body p.1 (σ p.1).ep bd (by rw [<- h1]))
  ·exact⟨h3,h1,fun _ _=>h2⟩
 ·obtain⟨p,hp,rfl,g1,g2⟩:=own k b c (by rw [h1];rfl) h2
  obtain⟨bd0,e⟩:=vY.1 g2
  exact hi.apart b ⟨p.1,(σ p.1).ep,bd0,c,by rw [<- e],g1⟩
 ·obtain⟨p,hp,rfl,g1,g2⟩:=own k b c h1 h3
  obtain⟨q,hq,rfl,g3,g4⟩:=own k' b c' h2 h4
  have e:=hi.inj p.1 q.1 b c c' g2 g4 g1 g3
  have:∀(l:List (Nat × Nat)),(l.map (·.1)).Nodup->p∈l->q∈l->p=q:=by
   intro l
   induction l with
   |nil=>intro _ h;cases h
   |cons a l ih=>
    intro hl h5 h6
    rw [vE,vV] at hl
    rcases vA.1 h5 with g5|g5 <;> rcases vA.1 h6 with g6|g6
    ·rw [g5,g6]
    ·exact (hl.1 (by rw [<- g5,e];exact qX (f:=(·.1)) g6)).elim
    ·exact (hl.1 (by rw [<- g6,<- e];exact qX (f:=(·.1)) g5)).elim
    ·exact ih hl.2 g5 g6
  rw [this π hn1 hp hq]
open Classical in
noncomputable def tG (μ μ1:Mu)(π:List (Nat × Nat))(T:List Nat):Mu:=fun id=>if id∈T then ik μ1 π id else μ id
theorem zo {W W':World}{F F':Nat -> Prop}{μ μ0 μ1:Mu}{σ σ0 σ1 σ2:Sto}{π:List (Nat × Nat)}{T:List Nat}(hi:Inv W F μ σ)(hi1:Inv W' F' μ1 σ1)(hs:Stq W F μ0 σ0 W' F' μ1 σ1)
  (own0:∀b,Own μ0 σ0 b->∃id∈T,∃ep bd c,σ id=⟨ep,some bd⟩/\μ id=some (b,c)) (hout:∀id,id∉T->σ2 id=σ id) (hn:(π.map (·.2)).Nodup) (hn1:∀p∈π,∀q∈π,p.1=q.1->p=q) (hT:∀p∈π,p.2∈T)
  (hup:∀id∈T,∀bd2,(σ2 id).body=some bd2->∃p∈π,p.2=id/\∃bd,(σ1 p.1).body=some bd/\RmB π σ1 σ2 bd bd2) (hep:∀id∈T,(σ id).ep<=(σ2 id).ep)
  (hsame:∀id∈T,(σ2 id).ep=(σ id).ep->∀bd2,(σ2 id).body=some bd2->∃bd,(σ id).body=some bd/\bd2.sh=bd.sh/\ik μ1 π id=μ id) :
  Stp W F μ σ W' F' (tG μ μ1 π T) σ2/\Inv W' F' (tG μ μ1 π T) σ2:=by
 have muT:∀id,id∈T->tG μ μ1 π T id=ik μ1 π id:=fun id h=>if_pos h
 have muN:∀id,id∉T->tG μ μ1 π T id=μ id:=fun id h=>if_neg h
 have size:=hs.kp.size
 have own0':∀b,Own μ0 σ0 b->Own μ σ b:=fun b hb=>by
  obtain⟨id,_,ep,bd,c,h1,h2⟩:=own0 b hb
  exact⟨id,ep,bd,c,h1,h2⟩
 -- a touched block, by the callee's number
 have tch:∀id∈T,∀b c,(σ2 id).body.isSome=true->ik μ1 π id=some (b,c)->∃p∈π,p.2=id/\(σ1 p.1).body.isSome=true/\μ1 p.1=some (b,c):=fun id hid b c h1 h2=>by
  obtain⟨bd2,e⟩:=vY.1 h1
  obtain⟨p,hp,rfl,bd,e1,_⟩:=hup id hid bd2 e
  exact⟨p,hp,rfl,by rw [e1];rfl,(dB hn p hp).symm.trans h2⟩
 have tchO:∀id∈T,∀b c,(σ2 id).body.isSome=true->ik μ1 π id=some (b,c)->Own μ1 σ1 b:=fun id hid b c h1 h2=>by
  obtain⟨p,hp,rfl,g1,g2⟩:=tch id hid b c h1 h2
  obtain⟨bd,e⟩:=vY.1 g1
  exact⟨p.1,(σ1 p.1).ep,bd,c,by rw [<- e],g2⟩
 -- an untouched block is none of those that were handed
 have apart0:∀id,id∉T->∀b c,(σ id).body.isSome=true->μ id=some (b,c)->¬Own μ0 σ0 b:=fun id hid b c h1 h2 ho=>by
  obtain⟨id',hT',ep,bd,c',g1,g2⟩:=own0 b ho
  have:=hi.inj id id' b c c' h1 (by rw [g1];rfl) h2 g2
  exact hid (this ▸ hT')
 have stp:Stp W F μ σ W' F' (tG μ μ1 π T) σ2:=by
  refine⟨hs.kp.mono fun b _ hb=>own0' b hb,hs.fro,fun b hb=>?_,fun b ⟨id,ep,bd,c,h1,h2⟩=>?_,fun id=>?_,fun id he bd2 hb=>?_⟩
  ·rcases hs.new b hb with h|h|h
   ·exact .inl h
   ·exact .inr (.inl (own0' b h))
   ·exact .inr (.inr h)
  ·by_cases hid:id∈T
   ·rw [muT id hid] at h2
    rcases hs.own b (tchO id hid b c (by rw [h1];rfl) h2) with h|h
    ·exact .inl (own0' b h)
    ·exact .inr h
   ·rw [muN id hid] at h2
    rw [hout id hid] at h1
    exact .inl ⟨id,ep,bd,c,h1,h2⟩
  ·by_cases hid:id∈T
   ·exact hep id hid
   ·rw [hout id hid];exact qJ _
  ·by_cases hid:id∈T
   ·rw [muT id hid]
    exact hsame id hid he bd2 hb
   ·rw [hout id hid] at hb
    exact⟨bd2,hb,rfl,muN id hid⟩
 refine⟨stp,fun id ep bd hb=>?_,fun b ⟨id,ep,bd,c,h1,h2⟩=>?_,fun id id' b c c' h1 h2 h3 h4=>?_,hi1.old,hi1.lay⟩
 ·by_cases hid:id∈T
  ·obtain⟨p,hp,rfl,bd1,e1,hR⟩:=hup id hid bd (by rw [hb])
   rw [muT _ hid,dB hn p hp]
   exact hR.rel (fun q hq=>(muT _ (hT q hq)).trans (dB hn q hq)) (hi1.body p.1 (σ1 p.1).ep bd1 (by rw [<- e1]))
  ·rw [hout id hid] at hb
   rw [muN id hid]
   refine (hi.body id ep bd hb).stp hi stp fun b c hm=>?_
   have ho:=hi.apart b ⟨id,ep,bd,c,hb,hm⟩
   exact hs.kp.block b ho.1 (apart0 id hid b c (by rw [hb];rfl) hm)
 ·by_cases hid:id∈T
  ·rw [muT id hid] at h2
   exact hi1.apart b (tchO id hid b c (by rw [h1];rfl) h2)
  ·rw [muN id hid] at h2
   rw [hout id hid] at h1
   have ho:=hi.apart b ⟨id,ep,bd,c,h1,h2⟩
   refine⟨by omega,fun hF=>?_⟩
   rcases hs.new b hF with h|h|h
   ·exact ho.2 h
   ·exact apart0 id hid b c (by rw [h1];rfl) h2 h
   ·omega
 ·have mix:∀ id id' c c',id ∈ T -> id' ∉ T -> (σ2 id).body.isSome = true -> (σ2 id').body.isSome = true -> tG μ μ1 π T id = some (b,c) -> tG μ μ1 π T id' = some (b,c') -> False := fun id id' c c' hid hid' h1 h2 h3 h4=>by
   rw [muT id hid] at h3
   rw [muN id' hid'] at h4
   rw [hout id' hid'] at h2
   obtain⟨bd',e⟩:=vY.1 h2
   have ho:=hi.apart b ⟨id',(σ id').ep,bd',c',by rw [<- e],h4⟩
   rcases hs.own b (tchO id hid b c h1 h3) with h|h
   ·exact apart0 id' hid' b c' h2 h4 h
   ·omega
  by_cases hid:id∈T <;> by_cases hid':id'∈T
  ·rw [muT id hid] at h3
   rw [muT id' hid'] at h4
   obtain⟨p,hp,rfl,g1,g2⟩:=tch id hid b c h1 h3
   obtain⟨q,hq,rfl,g3,g4⟩:=tch id' hid' b c' h2 h4
   rw [hn1 p hp q hq (hi1.inj p.1 q.1 b c c' g1 g3 g2 g4)]
  ·exact (mix id id' c c' hid hid' h1 h2 h3 h4).elim
  ·exact (mix id' id c' c hid' hid h2 h1 h4 h3).elim
  ·rw [muN id hid] at h3
   rw [muN id' hid'] at h4
   rw [hout id hid] at h1
   rw [hout id' hid'] at h2
   exact hi.inj id id' b c c' h1 h2 h3 h4
theorem Rm.congr2 {π:List (Nat × Nat)}{σ σ' σ2:Sto}(hσ:∀p∈π,σ2 p.2=σ' p.2){x x':AV}(h:Rm π σ σ' x x'):Rm π σ σ2 x x':=by
 induction h with
 |any x=>exact .any x
 |pu h=>exact .pu h
 |nil=>exact .nil
 |ref hm h h'=>exact .ref hm h ((hσ _ hm).trans h')
 |fn hl hl' _ _ ih ih'=>exact .fn hl hl' ih ih'
 |own hm h h'=>exact .own hm h ((hσ _ hm).trans h')
 |row hm h h'=>exact .row hm h ((hσ _ hm).trans h')
 |agg hl h1 _ ih=>exact .agg hl h1 ih
 |tup hl _ ih=>exact .tup hl ih
theorem RmB.congr2 {π:List (Nat × Nat)}{σ σ' σ2:Sto}(hσ:∀p∈π,σ2 p.2=σ' p.2){x x':aE}(h:RmB π σ σ' x x'):RmB π σ σ2 x x':=by
 cases h with
 |box hl h1 h=>exact .box hl h1 fun j x x' g g'=>(h j x x' g g').congr2 hσ
 |row t m els=>exact .row t m els
 |obj o=>exact .obj o
theorem iM:∀{l:List (Nat × SB)} {σ:Sto} {id:Nat},id∉l.map (·.1)->ups σ l id=σ id
 |[],_,_,_=>rfl
 |p::l,σ,id,h=>by
  rw [vE,vA,not_or] at h
  show ups (up1 σ p.1 p.2) l id=σ id
  rw [iM h.2]
  show cond (Nat.beq id p.1) p.2 (σ id)=σ id
  cases hb:Nat.beq id p.1
  ·rfl
  ·exact (h.1 (qY hb)).elim
theorem wv:∀{l:List (Nat × SB)} {σ σ':Sto} {id:Nat},id∈l.map (·.1)->ups σ l id=ups σ' l id
 |[],_,_,_,h=>by cases h
 |p::l,σ,σ',id,h=>by
  show ups (up1 σ p.1 p.2) l id=ups (up1 σ' p.1 p.2) l id
  by_cases hl:id∈l.map (·.1)
  ·exact wv hl
  ·rw [iM hl,iM hl]
   rw [vE,vA] at h
   have e:=h.resolve_right hl
   show cond (Nat.beq id p.1) p.2 (σ id)=cond (Nat.beq id p.1) p.2 (σ' id)
   rw [e,Nat.beq_refl]
   rfl
def gl (q:Nat->Option (Nat × Nat)):List Nat->List (Nat × SB)->List (Nat × SB)
 |[],B=>B
 |k::ks,B=>(900+k,⟨0,some (.ghost k 0 (q k))⟩)::gl q ks B
theorem lV {q:Nat->Option (Nat × Nat)}{B:List (Nat × SB)}{k:Nat}(hk:k<900):∀ks,lkB (gl q ks B) k=lkB B k
 |[]=>rfl
 |i::ks=>by
  show cond (Nat.beq k (900+i)) _ (lkB (gl q ks B) k)=_
  rw [nQ (by omega),cond_false]
  exact lV hk ks
theorem wM {q:Nat->Option (Nat × Nat)}{B:List (Nat × SB)}{k:Nat}:∀{ks},k∈ks->lkB (gl q ks B) (900+k)=⟨0,some (.ghost k 0 (q k))⟩
 |i::ks,h=>by
  show cond (Nat.beq (900+k) (900+i)) _ (lkB (gl q ks B) (900+k))=_
  by_cases e:k=i
  ·rw [e,si,cond_true]
  ·rw [nQ (by omega),cond_false]
   exact wM ((vA.1 h).resolve_left e)
theorem xd {q:Nat->Option (Nat × Nat)}{B:List (Nat × SB)}{k:Nat}{bd:aE}:∀{ks},(lkB (gl q ks B) k).body=some bd->(∃i,k=900+i/\bd = .ghost i 0 (q i))\/(lkB B k).body=some bd
 |[],h=>.inr h
 |i::ks,h=>by
  replace h:(cond (Nat.beq k (900+i)) (⟨0,some (.ghost i 0 (q i))⟩:SB) (lkB (gl q ks B) k)).body=some bd:=h
  cases hb:Nat.beq k (900+i)
  ·rw [hb,cond_false] at h
   exact xd h
  ·rw [hb,cond_true] at h
   exact .inl ⟨i,qY hb,(qB h).symm⟩
theorem ip {P:Program}{N:Nat}{o:Oper}{c:Call}{fop:Operand}{s:St}{f:FuncId}{first caps zs:List AV}{r r':AV}{π π':List (Nat × Nat)}{ks:List Nat}{B0 B1 up:List (Nat × SB)}(ho:o.op = .call c)(hc:c.callee = .value fop)(hf:s.ev fop = .fn f first caps)
  (h:∀q,aj P f zs (gl q ks B0) r (gl q ks B1))
  (hlen:zs.length=(first++(c.args.toList.map s.ev++caps)).length)
  (hargs:∀(j:Nat) (x z:AV),(first++(c.args.toList.map s.ev++caps))[j]?=some x->zs[j]?=some z->Rm π s.σ (lkB B0) x z)
  (hn:(π.map (·.2)).Nodup) (hn1:(π.map (·.1)).Nodup) (h9:∀p∈π,p.2<900)
  (hB0:∀k bd',(lkB B0 k).body=some bd'->∃p∈π,p.2=k/\∃bd,(s.σ p.1).body=some bd/\RmB π s.σ (lkB B0) bd bd')
  (hcov:∀p∈π,p.1∈up.map (·.1))
  (hn':(π'.map (·.2)).Nodup) (hn1':∀p∈π',∀q∈π',p.1=q.1->p=q) (h9':∀p∈π',p.1<900) (hT:∀p∈π',p.2∈up.map (·.1))
  (hup:∀id∈up.map (·.1),∀bd2,(ups s.σ up id).body=some bd2->∃p∈π',p.2=id/\∃bd,(lkB B1 p.1).body=some bd/\RmB π' (lkB B1) (ups s.σ up) bd bd2)
  (hep:∀id∈up.map (·.1),(s.σ id).ep<=(ups s.σ up id).ep)
  (hpin:∀id∈up.map (·.1),(ups s.σ up id).ep=(s.σ id).ep->∀bd2,(ups s.σ up id).body=some bd2->∃k∈ks,(id,k)∈π/\(k,id)∈π'/\(∃bd,lkB B1 k=⟨0,some bd⟩)/\∃bd,(s.σ id).body=some bd/\bd2.sh=bd.sh)
  (hr':Rm π' (lkB B1) (ups s.σ up) r r'):ax P N o s ⟨r',up,[]⟩:=by
 intro s' hev _ hid' W F μ a hr K Q hK
 have hσ:∀id∈up.map (·.1),s'.σ id=s.σ id:=fun id hin=>by
  obtain⟨p,hp,rfl⟩:=vI.1 hin
  exact hid' p hp
 have hu:∀id∈up.map (·.1),ups s'.σ up id=ups s.σ up id:=fun id hin=>wv hin
 have hopers:o.op.operands.toList=fop::c.args.toList:=by
  rw [ho]
  simp [Op.operands,Call.operands,hc]
 have hf':s'.ev fop = .fn f first caps:=(hev fop (by rw [hopers];simp)).trans hf
 have hargs':c.args.toList.map s'.ev=c.args.toList.map s.ev:=List.map_congr_left fun x hx=>hev x (by rw [hopers];simp [hx])
 have hfv:=hr.ev fop
 rw [hf'] at hfv
 obtain⟨fs,cs,hfe,hfl,hcl,hfr,hcr⟩:=hfv.fn'
 obtain⟨q,hq⟩:∃q,q=ik μ π:=⟨_,rfl⟩
 have lo0:∀p∈π,lkB (gl q ks B0) p.2=lkB B0 p.2:=fun p hp=>lV (h9 p hp) ks
 have lo1:∀p∈π',lkB (gl q ks B1) p.1=lkB B1 p.1:=fun p hp=>lV (h9' p hp) ks
 obtain⟨fn,bd,g1,g2,g3⟩:=(h q).fn
 unfold Oper.wp
 rw [kU ho hc hfe g1 g2 g3]
 show Calls P f _ W _
 have hσπ:∀p∈π,s'.σ p.1=s.σ p.1:=fun p hp=>hσ p.1 (hcov p hp)
 have hi0:Inv W F (ik μ π) (lkB (gl q ks B0)):=Bz hr.inv hn hn1 fun k bd' hb=>by
  rcases xd hb with⟨i,rfl,rfl⟩|hb
  ·right
   refine⟨i,0,q i,rfl,qR _,by rw [hq],?_⟩
   cases hm:ik μ π (900+i) with
   |none=>rfl
   |some x=>
    obtain⟨p,hp,e,_⟩:=lG hm
    have:=h9 p hp
    omega
  ·obtain⟨p,hp,e,bd,e1,e2⟩:=hB0 k bd' hb
   exact .inl ⟨p,hp,e,bd,by rw [hσπ p hp];exact e1,(e2.congr hσπ).congr2 lo0⟩
 have hvl:(fs++(c.args.toList.map a.eval++cs)).length=zs.length:=by rw [hlen];simp [hfl,hcl]
 refine ((h q).calls W F (ik μ π) (fs++(c.args.toList.map a.eval++cs)) hvl (fun j z v hz hv=>?_) hi0).mono ?_
 ·obtain⟨x,hx⟩:∃x,(first++(c.args.toList.map s.ev++caps))[j]?=some x:=⟨_,qA (by rw [<- hlen];exact (qD.1 hz).1)⟩
  refine (((hargs j x z hx hz).congr hσπ).congr2 lo0).rel (fun p hp=>dB hn p hp) ?_
  rw [<- hargs'] at hx
  rw [vZ] at hx hv
  rw [hfl] at hv
  split at hx
  ·rename_i hlt
   rw [if_pos hlt] at hv
   exact hfr j x v hx hv
  ·rename_i hlt
   rw [if_neg hlt] at hv
   rw [vZ] at hx hv
   simp only [qG] at hx hv
   split at hx
   ·rename_i hlt2
    rw [if_pos hlt2] at hv
    rw [qF] at hx hv
    cases hq:c.args.toList[j-first.length]? with
    |none=>rw [hq] at hx;cases hx
    |some q=>
     rw [hq] at hx hv
     obtain rfl:s'.ev q=x:=by simpa using hx
     obtain rfl:a.eval q=v:=by simpa using hv
     exact hr.ev q
   ·rename_i hlt2
    rw [if_neg hlt2] at hv
    exact hcr _ x v hx hv
 ·rintro e W' ⟨v,F',μ1,rfl,hi1,hs1,hv⟩
  obtain⟨hs,hi⟩ := zo (σ2 := ups s'.σ up) (T := up.map (·.1)) hr.inv hi1 hs1 (fun b ⟨k,ep,bd,c,e1,e2⟩=>by
    obtain⟨p,hp,rfl,e3⟩:=lG e2
    rw [lo0 p hp] at e1
    obtain⟨p',hp',e4,bd',e5,_⟩:=hB0 p.2 bd (show (lkB B0 p.2).body=some bd by rw [e1])
    have e6:μ p'.1=some (b,c):=by have g:=dB (μ:=μ) hn p' hp';rw [e4] at g;exact g.symm.trans e2
    exact⟨p'.1,hcov p' hp',(s'.σ p'.1).ep,bd',c,by rw [hσπ p' hp',<- e5],e6⟩)
   (fun id hid=>iM hid) hn' hn1' hT
   (fun id hid bd2 hb=>by
    rw [hu id hid] at hb
    obtain⟨p,hp,e1,bd,e2,e3⟩:=hup id hid bd2 hb
    exact⟨p,hp,e1,bd,by rw [lo1 p hp];exact e2,(e3.congr2 fun p hp=>hu _ (hT p hp)).congr lo1⟩)
   (fun id hid=>by rw [hu id hid,hσ id hid];exact hep id hid)
   (fun id hid he bd2 hb=>by
    rw [hu id hid] at hb he
    rw [hσ id hid] at he
    obtain⟨k,hk,m1,m2,⟨bd1,e1⟩,bd,e2,e3⟩:=hpin id hid he bd2 hb
    refine⟨bd,by rw [hσ _ hid];exact e2,e3,?_⟩
    have hg:=hi1.body (900+k) 0 (.ghost k 0 (q k)) (wM hk)
    have h1:μ1 k=q k:=hg.2.2 bd1 ((lo1 _ m2).trans e1)
    exact (dB hn' (k,id) m2).trans (h1.trans (by rw [hq];exact dB hn (id,k) m1)))
  refine hK W' F' _ _ (hr.put hs hi (dst:=o.dst) (x:=r') (v:=v) ?_) hs
  refine ((hr'.congr lo1).congr2 fun p hp=>hu _ (hT p hp)).rel (fun p hp=>?_) hv
  unfold tG
  rw [if_pos (hT p hp)]
  exact dB hn' p hp
end Go.Proofs.YtdidjpohnopihaaGreat.Sm
end
section
namespace Go.Proofs.YtdidjpohnopihaaGreat.Sm
open Go.RowKit
def lkP:List (Nat × Nat)->Nat->Option Nat
 |[],_=>none
 |p::π,id=>cond (Nat.beq id p.1) (some p.2) (lkP π id)
theorem gO:∀{π:List (Nat × Nat)} {id k:Nat},lkP π id=some k->(id,k)∈π
 |[],_,_,h=>by cases h
 |p::π,id,k,h=>by
  replace h:cond (Nat.beq id p.1) (some p.2) (lkP π id)=some k:=h
  cases hb:Nat.beq id p.1
  ·rw [hb,cond_false] at h
   exact qZ _ (gO h)
  ·rw [hb,cond_true] at h
   rw [qY hb,<- qB h]
   exact vD
def fD {α:Type}:List (Option α)->Option (List α)
 |[]=>some []
 |none::_=>none
 |some x::l=>match fD l with
  |some r=>some (x::r)
  |none=>none
theorem eK {α β:Type}{f:β->Option α}:∀{l:List β} {r:List α},fD (l.map f)=some r->r.length=l.length/\∀(j:Nat) (x:β) (y:α),l[j]?=some x->r[j]?=some y->f x=some y
 |[],r,h=>by
  obtain rfl:=qB h
  exact⟨rfl,fun j x y hx=>by simp at hx⟩
 |a::l,r,h=>by
  cases ha:f a with
  |none=>simp [fD,ha] at h
  |some b=>
   cases hl:fD (l.map f) with
   |none=>simp [fD,ha,hl] at h
   |some t=>
    simp only [vE,fD,ha,hl,qU] at h
    subst h
    obtain⟨h1,h2⟩:=eK hl
    refine⟨by simp [h1],fun j x y hx hy=>?_⟩
    cases j with
    |zero=>
     obtain rfl:a=x:=by simpa using hx
     obtain rfl:b=y:=by simpa using hy
     exact ha
    |succ j=>exact h2 j x y (by simpa using hx) (by simpa using hy)
def Cg (π:List (Nat × Nat))(σ:Sto)(e:Nat->Nat):AV->Option AV
 | .own id ep off=>match lkP π id,σ id with
  |some k,⟨ep0,some _⟩=>cond (Nat.beq ep0 ep) (some (.own k (e k) off)) none
  |_,_=>none
 | .ref id ep kd=>match lkP π id,σ id with
  |some k,⟨ep0,some _⟩=>cond (Nat.beq ep0 ep) (some (.ref k (e k) kd)) none
  |_,_=>none
 | .row id ep off n=>match lkP π id,σ id with
  |some k,⟨ep0,some (.row _ _ _)⟩=>cond (Nat.beq ep0 ep) (some (.row k (e k) off n)) none
  |_,_=>none
 | .any=>some .any
 |x=>cond x.pu1 (some x) none
def DL (π:List (Nat × Nat))(σ:Sto)(e:Nat->Nat):AV->Option AV
 | .agg cs=>match fD (cs.map (Cg π σ e)) with
  |some r=>cond (r.all AV.one) (some (.agg r)) none
  |none=>none
 |x=>Cg π σ e x
def Ah (π:List (Nat × Nat))(σ:Sto)(e:Nat->Nat):AV->Option AV
 | .fn f a c=>match fD (a.map (DL π σ e)),fD (c.map (DL π σ e)) with
  |some a',some c'=>some (.fn f a' c')
  |_,_=>none
 |x=>Cg π σ e x
def Dj (π:List (Nat × Nat))(σ:Sto)(e:Nat->Nat):AV->Option AV
 | .agg cs=>match fD (cs.map (Ah π σ e)) with
  |some r=>cond (r.all AV.one) (some (.agg r)) none
  |none=>none
 |x=>Ah π σ e x
def rmA (π:List (Nat × Nat))(σ:Sto)(e:Nat->Nat):AV->Option AV
 | .tup cs=>match fD (cs.map (Dj π σ e)) with
  |some r=>some (.tup r)
  |none=>none
 |x=>Dj π σ e x
def RmS (π:List (Nat × Nat))(σ σ':Sto)(e:Nat->Nat):Prop :=
 ∀p∈π,∀bd,(σ p.1).body=some bd->∃bd',σ' p.2=⟨e p.2,some bd'⟩/\∀t m els,bd = .row t m els->bd' = .row t m els
theorem qn {π:List (Nat × Nat)}{σ σ':Sto}{e:Nat->Nat}(hS:RmS π σ σ' e){x x':AV}(h:Cg π σ e x=some x'):Rm π σ σ' x x':=by
 unfold Cg at h
 split at h
 ·split at h
  ·rename_i id ep off o sb k ep0 bd hk hs
   obtain⟨h1,h2⟩:=bh h
   obtain rfl:=qY h1
   obtain rfl:=qB h2
   have hm:=gO hk
   obtain⟨bd',h3,_⟩:=hS _ hm bd (by rw [hs])
   exact .own hm hs h3
  ·cases h
 ·split at h
  ·rename_i id ep kd o sb k ep0 bd hk hs
   obtain⟨h1,h2⟩:=bh h
   obtain rfl:=qY h1
   obtain rfl:=qB h2
   have hm:=gO hk
   obtain⟨bd',h3,_⟩:=hS _ hm bd (by rw [hs])
   exact .ref hm hs h3
  ·cases h
 ·split at h
  ·rename_i id ep off n o sb k ep0 t m els hk hs
   obtain⟨h1,h2⟩:=bh h
   obtain rfl:=qY h1
   obtain rfl:=qB h2
   have hm:=gO hk
   obtain⟨bd',h3,h4⟩:=hS _ hm _ (by rw [hs])
   rw [h4 _ _ _ rfl] at h3
   exact .row hm hs h3
  ·cases h
 ·obtain rfl:=qB h
  exact .any _
 ·obtain⟨h1,h2⟩:=bh h
  obtain rfl:=qB h2
  exact .pu h1
theorem xF {π:List (Nat × Nat)}{σ σ':Sto}{e:Nat->Nat}(hS:RmS π σ σ' e){x x':AV}(h:DL π σ e x=some x'):Rm π σ σ' x x':=by
 unfold DL at h
 split at h
 ·split at h
  ·rename_i cs r hr
   obtain⟨h1,h2⟩:=bh h
   obtain rfl:=qB h2
   obtain⟨g1,g2⟩:=eK hr
   exact .agg g1 (fun j x hj=>qV.1 h1 x (qN hj)) fun j x x' hx hx'=>qn hS (g2 j x x' hx hx')
  ·cases h
 ·exact qn hS h
theorem qw {π:List (Nat × Nat)}{σ σ':Sto}{e:Nat->Nat}(hS:RmS π σ σ' e){x x':AV}(h:Ah π σ e x=some x'):Rm π σ σ' x x':=by
 unfold Ah at h
 split at h
 ·split at h
  ·rename_i a' c' ha hc
   obtain rfl:=qB h
   obtain⟨g1,g2⟩:=eK ha
   obtain⟨g3,g4⟩:=eK hc
   exact .fn g1 g3 (fun j x x' hx hx'=>xF hS (g2 j x x' hx hx')) fun j x x' hx hx'=>xF hS (g4 j x x' hx hx')
  ·cases h
 ·exact qn hS h
theorem wU {π:List (Nat × Nat)}{σ σ':Sto}{e:Nat->Nat}(hS:RmS π σ σ' e){x x':AV}(h:Dj π σ e x=some x'):Rm π σ σ' x x':=by
 unfold Dj at h
 split at h
 ·split at h
  ·rename_i cs r hr
   obtain⟨h1,h2⟩:=bh h
   obtain rfl:=qB h2
   obtain⟨g1,g2⟩:=eK hr
   exact .agg g1 (fun j x hj=>qV.1 h1 x (qN hj)) fun j x x' hx hx'=>qw hS (g2 j x x' hx hx')
  ·cases h
 ·exact qw hS h
theorem kV {π:List (Nat × Nat)}{σ σ':Sto}{e:Nat->Nat}(hS:RmS π σ σ' e){x x':AV}(h:rmA π σ e x=some x'):Rm π σ σ' x x':=by
 unfold rmA at h
 split at h
 ·split at h
  ·rename_i cs r hr
   obtain rfl:=qB h
   obtain⟨g1,g2⟩:=eK hr
   exact .tup g1 fun j x x' hx hx'=>wU hS (g2 j x x' hx hx')
  ·cases h
 ·exact wU hS h
def deN1 (x:AV):AV:=cond (iX x) (.sl []) x
def deN:AV->AV
 | .agg cs=>.agg (cs.map deN1)
 |x=>deN1 x
theorem Rm.deN1 {π:List (Nat × Nat)}{σ σ':Sto}{x y:AV}(h:Rm π σ σ' x y):Rm π σ σ' x (deN1 y):=by
 cases hn:iX y
 ·rw [Sm.deN1,hn];exact h
 ·rw [Sm.deN1,hn]
  obtain rfl:=lq hn
  cases h with
  |pu h=>exact .nil
theorem AF {x:AV}(h:x.one=true):(deN1 x).one=true:=by
 cases hn:iX x
 ·rw [deN1,hn];exact h
 ·rw [deN1,hn];rfl
theorem Rm.deN {π:List (Nat × Nat)}{σ σ':Sto}{x y:AV}(h:Rm π σ σ' x y):Rm π σ σ' x (deN y):=by
 unfold Sm.deN
 split
 ·cases h with
  |pu h=>cases h
  |agg hl h1 h=>
   refine .agg (by rw [qG,hl]) (fun j x hj=>?_) fun j x x' hx hx'=>?_
   ·rw [qF] at hj
    obtain⟨y,hy,rfl⟩:=vT.1 hj
    exact AF (h1 j y hy)
   ·rw [qF] at hx'
    obtain⟨y,hy,rfl⟩:=vT.1 hx'
    exact (h j x y hx hy).deN1
 ·exact h.deN1
def rmB (π:List (Nat × Nat))(σ:Sto)(e:Nat->Nat):aE->Option aE
 | .box t cs=>match fD (cs.map (Ah π σ e)) with
  |some r=>cond (r.all AV.one) (some (.box t r)) none
  |none=>none
 | .row t m els=>some (.row t m els)
 | .ghost _ _ _=>none
 | .obj o=>some (.obj o)
 | .nest _ _=>none
theorem gL {π:List (Nat × Nat)}{σ σ':Sto}{e:Nat->Nat}(hS:RmS π σ σ' e){x x':aE}(h:rmB π σ e x=some x'):RmB π σ σ' x x':=by
 unfold rmB at h
 split at h
 ·split at h
  ·rename_i t cs r hr
   obtain⟨h1,h2⟩:=bh h
   obtain rfl:=qB h2
   obtain⟨g1,g2⟩:=eK hr
   exact .box g1 (fun j x hj=>qV.1 h1 x (qN hj)) fun j x x' hx hx'=>qw hS (g2 j x x' hx hx')
  ·cases h
 ·obtain rfl:=qB h
  exact .row _ _ _
 ·cases h
 ·obtain rfl:=qB h
  exact .obj _
 ·cases h
def rmS (π0:List (Nat × Nat))(σ:Sto)(e:Nat->Nat):List (Nat × Nat)->Option (List (Nat × SB))
 |[]=>some []
 |p::π=>match σ p.1 with
  |⟨_,some bd⟩=>match rmB π0 σ e bd,rmS π0 σ e π with
   |some bd',some l=>some ((p.2,⟨e p.2,some bd'⟩)::l)
   |_,_=>none
  |_=>none
theorem iF {π0:List (Nat × Nat)}{σ:Sto}{e:Nat->Nat}:∀{π:List (Nat × Nat)} {l:List (Nat × SB)},rmS π0 σ e π=some l->l.map (·.1)=π.map (·.2) /\
  ∀q∈l,∃p∈π,p.2=q.1/\∃bd bd',(σ p.1).body=some bd/\rmB π0 σ e bd=some bd'/\q.2=⟨e p.2,some bd'⟩
 |[],l,h=>by
  obtain rfl:=qB h
  exact⟨rfl,fun q hq=>by cases hq⟩
 |p::π,l,h=>by
  unfold rmS at h
  split at h
  ·rename_i ep bd hs
   split at h
   ·rename_i bd' l' hb hl
    obtain rfl:=qB h
    obtain⟨h1,h2⟩:=iF hl
    refine⟨by rw [vE,vE,h1],fun q hq=>?_⟩
    rcases vA.1 hq with rfl|hq
    ·exact⟨p,vD,rfl,bd,bd',by rw [hs],hb,rfl⟩
    ·obtain⟨p',hp',g⟩:=h2 q hq
     exact⟨p',qZ _ hp',g⟩
   ·cases h
  ·cases h
theorem rk:∀{l:List (Nat × SB)} {q:Nat × SB},(l.map (·.1)).Nodup->q∈l->lkB l q.1=q.2
 |a::l,q,hn,hq=>by
  rw [vE,vV] at hn
  show cond (Nat.beq q.1 a.1) a.2 (lkB l q.1)=q.2
  rcases vA.1 hq with rfl|hq
  ·rw [si,cond_true]
  ·rw [nQ (fun e=>hn.1 (by rw [<- e];exact qX (f:=(·.1)) hq)),cond_false]
   exact rk hn.2 hq
theorem iB:∀{l:List (Nat × SB)} {k:Nat} {bd:aE},(lkB l k).body=some bd->∃q∈l,q.1=k/\q.2=lkB l k
 |[],k,bd,h=>by cases h
 |a::l,k,bd,h=>by
  have e0:lkB (a::l) k=cond (Nat.beq k a.1) a.2 (lkB l k):=rfl
  cases hb:Nat.beq k a.1
  ·rw [hb,cond_false] at e0
   rw [e0] at h ⊢
   obtain⟨q,hq,h1,h2⟩:=iB h
   exact⟨q,qZ _ hq,h1,h2⟩
  ·rw [hb,cond_true] at e0
   exact⟨a,vD,(qY hb).symm,e0.symm⟩
theorem ql:∀{l:List (Nat × SB)} {σ:Sto} {q:Nat × SB},(l.map (·.1)).Nodup->q∈l->ups σ l q.1=q.2
 |a::l,σ,q,hn,hq=>by
  rw [vE,vV] at hn
  show ups (up1 σ a.1 a.2) l q.1=q.2
  rcases vA.1 hq with rfl|hq
  ·rw [iM hn.1]
   show cond (Nat.beq q.1 q.1) q.2 _=q.2
   rw [si,cond_true]
  ·exact ql hn.2 hq
theorem i8 {π:List (Nat × Nat)}{σ σ':Sto}{e:Nat->Nat}{l:List (Nat × SB)}(h:rmS π σ e π=some l)(hl:∀q∈l,σ' q.1=q.2)(hn:(π.map (·.2)).Nodup):RmS π σ σ' e:=by
 intro p hp bd hbd
 obtain⟨h1,h2⟩:=iF h
 obtain⟨q,hq,hq1⟩:∃q∈l,q.1=p.2:=vI.1 (by rw [h1];exact qX (f:=(·.2)) hp)
 obtain⟨p',hp',e1,bd0,bd',e2,e3,e4⟩:=h2 q hq
 have:∀(π:List (Nat × Nat)),(π.map (·.2)).Nodup->p∈π->p'∈π->p'.2=p.2->p'=p:=by
  intro π
  induction π with
  |nil=>intro _ h;cases h
  |cons a π ih=>
   intro hn h5 h6 he
   rw [vE,vV] at hn
   rcases vA.1 h5 with g5|g5 <;> rcases vA.1 h6 with g6|g6
   ·rw [g5,g6]
   ·exact (hn.1 (by rw [<- g5,<- he];exact qX (f:=(·.2)) g6)).elim
   ·exact (hn.1 (by rw [<- g6,he];exact qX (f:=(·.2)) g5)).elim
   ·exact ih hn.2 g5 g6 he
 obtain rfl:=this π hn hp hp' (e1.trans hq1)
 refine⟨bd',by rw [<- hq1,hl q hq,e4,hq1],fun t m els hr=>?_⟩
 obtain rfl:=qB (hbd.symm.trans e2)
 subst hr
 exact (qB e3).symm
def iR:List Nat->Bool
 |[]=>true
 |x::l=>l.all (fun y=>!Nat.beq x y) && iR l
theorem bq:∀{l:List Nat},iR l=true->l.Nodup
 |[],_=>List.nodup_nil
 |x::l,h=>by
  simp only [iR,qQ] at h
  refine vV.2 ⟨fun hx=>?_,bq h.2⟩
  have:=qV.1 h.1 x hx
  rw [Nat.beq_refl] at this
  cases this
def shB (a b:Option aE):Bool:=match a,b with
 |some (.box t cs),some (.box t' cs')=>Nat.beq t t' && Nat.beq cs.length cs'.length
 |some (.obj _),some (.obj _)=>true
 |_,_=>false
theorem F4 {a b:Option aE}(h:shB a b=true):∃x y,a=some x/\b=some y/\y.sh=x.sh:=by
 unfold shB at h
 split at h
 ·rename_i t cs t' cs'
  rw [qQ] at h
  refine⟨_,_,rfl,rfl,?_⟩
  show (true,t',cs'.length,0)=(true,t,cs.length,0)
  rw [qY h.1,qY h.2]
 ·exact⟨_,_,rfl,rfl,rfl⟩
 ·cases h
def nW (σ:Sto)(π π':List (Nat × Nat))(ks:List Nat)(B1:List (Nat × SB))(id:Nat):Bool:=match lkP π id with
 |some k=>match lkP π' k,lkB B1 k with
  |some id',⟨0,some bd⟩=>Nat.beq id' id && ks.any (Nat.beq k) && shB (σ id).body (some bd)
  |_,_=>false
 |none=>false
theorem pT {σ:Sto}{π π':List (Nat × Nat)}{ks:List Nat}{B1:List (Nat × SB)}{id:Nat}(h:nW σ π π' ks B1 id=true):∃k∈ks,(id,k)∈π/\(k,id)∈π'/\∃bd bd1,lkB B1 k=⟨0,some bd1⟩/\(σ id).body=some bd/\bd1.sh=bd.sh:=by
 unfold nW at h
 split at h
 ·rename_i k hk
  split at h
  ·rename_i id' bd hk' hb
   simp only [qQ] at h
   obtain rfl:=qY h.1.1
   obtain⟨k',hk1,hk2⟩:=List.any_eq_true.1 h.1.2
   obtain rfl:=qY hk2
   obtain⟨x,y,e1,e2,e3⟩:=F4 h.2
   obtain rfl:=qB e2
   exact⟨k,hk1,gO hk,gO hk',x,bd,hb,e1,e3⟩
  ·cases h
 ·cases h
def ep2 (σ:Sto)(π π':List (Nat × Nat))(ks:List Nat)(B1:List (Nat × SB))(id:Nat):Nat:=cond (nW σ π π' ks B1 id) (σ id).ep ((σ id).ep+1)
def gone (σ:Sto)(π':List (Nat × Nat)):List (Nat × Nat)->List (Nat × SB)
 |[]=>[]
 |p::π=>cond (π'.any fun q=>Nat.beq p.1 q.2) (gone σ π' π) ((p.1,⟨(σ p.1).ep,none⟩)::gone σ π' π)
theorem eO {σ:Sto}{π':List (Nat × Nat)}:∀{π:List (Nat × Nat)} {q:Nat × SB},q∈gone σ π' π->q.2=⟨(σ q.1).ep,none⟩/\q.1∈π.map (·.1)
 |[],q,h=>by cases h
 |p::π,q,h=>by
  unfold gone at h
  cases hb:π'.any fun q=>Nat.beq p.1 q.2
  ·rw [hb,cond_false] at h
   rcases vA.1 h with rfl|h
   ·exact⟨rfl,by simp⟩
   ·exact⟨(eO h).1,qZ _ (eO h).2⟩
  ·rw [hb,cond_true] at h
   exact⟨(eO h).1,qZ _ (eO h).2⟩
theorem iI {σ:Sto}{π':List (Nat × Nat)}:∀{π:List (Nat × Nat)} {p:Nat × Nat},p∈π->p.1∈(gone σ π' π).map (·.1)\/p.1∈π'.map (·.2)
 |a::π,p,h=>by
  unfold gone
  cases hb:π'.any fun q=>Nat.beq a.1 q.2
  ·rw [cond_false]
   rcases vA.1 h with rfl|h
   ·exact .inl (by simp)
   ·rcases iI (σ:=σ) (π':=π') h with h|h
    ·exact .inl (qZ _ h)
    ·exact .inr h
  ·rw [cond_true]
   rcases vA.1 h with rfl|h
   ·obtain⟨q,hq,e⟩:=List.any_eq_true.1 hb
    exact .inr (by rw [qY e];exact qX (f:=(·.2)) hq)
   ·exact iI h
def okO (σ:Sto)(π π':List (Nat × Nat))(B0:List (Nat × SB)):Bool :=
 iR (π.map (·.2)) && iR (π.map (·.1)) && iR (π'.map (·.2)) && iR (π'.map (·.1)) && π.all (fun p=>Nat.blt p.2 900) && π'.all (fun p=>Nat.blt p.1 900) && iR (π'.map (·.2)++(gone σ π' π).map (·.1))
theorem RG.own {P:Program}{N:Nat}{ops:Array Oper}{rest:List Oper}{s:St}{K:St -> List Eff -> Prop}{o:Oper}{c:Call}{f:FuncId}{xs zs zs':List AV}{r r':AV}{π π':List (Nat × Nat)}{ks:List Nat}{B0 B0' B1 up0:List (Nat × SB)}{d:Option Nat}
  (h:∀q,aj P f zs (gl q ks B0) r (gl q ks B1)) (hg:gd ops s o=some true) (ho:o.op = .call c) (ha:fA s c=some (f,xs))
  (hz:fD (xs.map (rmA π s.σ (fun _=>0)))=some zs') (hz':zs'.map deN=zs) (hb:rmS π s.σ (fun _=>0) π=some B0') (hb':B0'=B0)
  (hu:rmS π' (lkB B1) (ep2 s.σ π π' ks B1) π'=some up0) (hr':rmA π' (lkB B1) (ep2 s.σ π π' ks B1) r=some r') (hk:okO s.σ π π' B0=true) (hd:o.dst=d)
  (hr:RG P N ops rest ⟨eH N s.ts d r',ups s.σ (up0++gone s.σ π' π)⟩ fun s' Es=>K s' (⟨r',up0++gone s.σ π' π,[]⟩::Es)):RG P N ops (o::rest) s K:=by
 subst hz' hb' hd
 unfold fA at ha
 split at ha
 case h_2=>cases ha
 rename_i fop hc
 split at ha
 case h_2=>cases ha
 rename_i f' first caps hf
 simp only [qU,vC] at ha
 obtain⟨rfl,rfl⟩:=ha
 simp only [okO,qQ] at hk
 obtain⟨⟨⟨⟨⟨⟨k1,k2⟩,k3⟩,k4⟩,k5⟩,k6⟩,k7⟩:=hk
 have n1:=bq k1
 have n3:=bq k3
 obtain⟨u1,u2⟩:=iF hu
 obtain⟨b1,b2⟩:=iF hb
 have hkeys:((up0++gone s.σ π' π).map (·.1)).Nodup:=by rw [uB,u1];exact bq k7
 have hat:∀q∈up0++gone s.σ π' π,ups s.σ (up0++gone s.σ π' π) q.1=q.2:=fun q hq=>ql hkeys hq
 have hS0:RmS π s.σ (lkB B0') (fun _=>0):=i8 hb (fun q hq=>rk (by rw [b1];exact n1) hq) n1
 have hS1:RmS π' (lkB B1) (ups s.σ (up0++gone s.σ π' π)) (ep2 s.σ π π' ks B1):=i8 hu (fun q hq=>hat q (vS _ hq)) n3
 obtain⟨z1,z2⟩:=eK hz
 have body2:∀id∈(up0++gone s.σ π' π).map (·.1),∀bd2,(ups s.σ (up0++gone s.σ π' π) id).body=some bd2->∃p∈π',p.2=id/\ups s.σ (up0++gone s.σ π' π) id=⟨ep2 s.σ π π' ks B1 id,some bd2⟩/\∃bd,(lkB B1 p.1).body=some bd/\rmB π' (lkB B1) (ep2 s.σ π π' ks B1) bd=some bd2:=fun id hid bd2 hb2=>by
  obtain⟨q,hq,rfl⟩:=vI.1 hid
  rw [hat q hq] at hb2 ⊢
  rcases vB.1 hq with h1|h1
  ·obtain⟨p,hp,e1,bd,bd',e2,e3,e4⟩:=u2 q h1
   rw [e4] at hb2
   obtain rfl:=qB hb2
   exact⟨p,hp,e1,by rw [e4,e1],bd,e2,e3⟩
  ·rw [(eO h1).1] at hb2
   cases hb2
 refine RG.opB hg (xi (h fun _=>none).fn ho hc hf) (ip (π := π) (π' := π') (ks := ks) ho hc hf h (by rw [qG]; exact z1) (fun j x z hx hz=>by
   rw [qF] at hz
   obtain⟨y,hy,rfl⟩:=vT.1 hz
   exact (kV hS0 (z2 j x y hx hy)).deN) n1 (bq k2) (fun p hp=>qW (qV.1 k5 p hp)) (fun k bd' hbd=>?_) (fun p hp=>?_) n3
  (fun p hp q hq e=>?_) (fun p hp=>qW (qV.1 k6 p hp)) (fun p hp=>?_) (fun id hid bd2 hb2=>?_) (fun id hid=>?_) (fun id hid he bd2 hb2=>?_) (kV hS1 hr')) hr
 ·obtain⟨q,hq,e1,e2⟩:=iB hbd
  obtain⟨p,hp,e3,bd,bd1,e4,e5,e6⟩:=b2 q hq
  rw [<- e2,e6] at hbd
  obtain rfl:=qB hbd
  exact⟨p,hp,e3.trans e1,bd,e4,gL hS0 e5⟩
 ·rw [uB,vB,u1]
  exact (iI hp).symm
 ·have:∀ (l:List (Nat × Nat)),(l.map (·.1)).Nodup -> p ∈ l -> q ∈ l -> p = q := by
   intro l
   induction l with
   |nil=>intro _ h;cases h
   |cons a l ih=>
    intro hl h5 h6
    rw [vE,vV] at hl
    rcases vA.1 h5 with g5|g5 <;> rcases vA.1 h6 with g6|g6
    ·rw [g5,g6]
    ·exact (hl.1 (by rw [<- g5,e];exact qX (f:=(·.1)) g6)).elim
    ·exact (hl.1 (by rw [<- g6,<- e];exact qX (f:=(·.1)) g5)).elim
    ·exact ih hl.2 g5 g6
  exact this π' (bq k4) hp hq
 ·rw [uB,vB,u1]
  exact .inl (qX (f:=(·.2)) hp)
 ·obtain⟨p,hp,e1,_,bd,e2,e3⟩:=body2 id hid bd2 hb2
  exact⟨p,hp,e1,bd,e2,gL hS1 e3⟩
 ·obtain⟨q,hq,rfl⟩:=vI.1 hid
  rw [hat q hq]
  rcases vB.1 hq with h1|h1
  ·obtain⟨p,hp,e1,bd,bd',e2,e3,e4⟩:=u2 q h1
   rw [e4,e1]
   unfold ep2
   cases nW s.σ π π' ks B1 q.1
   ·exact Nat.le_succ _
   ·exact qJ _
  ·rw [(eO h1).1];exact qJ _
 ·obtain⟨p,hp,e1,e0,bd,e2,e3⟩:=body2 id hid bd2 hb2
  rw [e0] at he
  have hkp:nW s.σ π π' ks B1 id=true:=by
   replace he:ep2 s.σ π π' ks B1 id=(s.σ id).ep:=he
   unfold ep2 at he
   cases hk:nW s.σ π π' ks B1 id
   ·rw [hk,cond_false] at he;omega
   ·rfl
  obtain⟨k,hk,m1,m2,bd0,bd1,g1,g2,g3⟩:=pT hkp
  have hbd:rmB π' (lkB B1) (ep2 s.σ π π' ks B1) bd1=some bd2:=by
   have:p=(k,id):=by
    have:∀(l:List (Nat × Nat)),(l.map (·.2)).Nodup->p∈l->(k,id)∈l->p=(k,id):=by
     intro l
     induction l with
     |nil=>intro _ h;cases h
     |cons a l ih=>
      intro hl h5 h6
      rw [vE,vV] at hl
      rcases vA.1 h5 with g5|g5 <;> rcases vA.1 h6 with g6|g6
      ·rw [g5,g6]
      ·exact (hl.1 (by rw [<- g5,e1];exact qX (f:=(·.2)) g6)).elim
      ·exact (hl.1 (by rw [<- g6];show id∈_;rw [<- e1];exact qX (f:=(·.2)) g5)).elim
      ·exact ih hl.2 g5 g6
    exact this π' n3 hp m2
   rw [this] at e2
   have:bd=bd1:=qB (e2.symm.trans (by show (lkB B1 k).body=_;rw [g1]))
   rw [<- this];exact e3
  refine⟨k,hk,m1,m2,⟨bd1,g1⟩,bd0,g2,?_⟩
  rw [<- g3]
  have hR:=gL hS1 hbd
  cases hR with
  |box hl _ _=>show (true,_,_,0)=(true,_,_,0);rw [hl]
  |row=>rfl
  |obj=>rfl
def Eb (σ:Sto)(π π':List (Nat × Nat))(ks:List Nat)(B1:List (Nat × SB))(r:AV):Option (AV × List (Nat × SB)) :=
 match rmS π' (lkB B1) (ep2 σ π π' ks B1) π',rmA π' (lkB B1) (ep2 σ π π' ks B1) r with
 |some up0,some r'=>rj r' fun r'=>cu (up0++gone σ π' π) fun up=>some (r',up)
 |_,_=>none
theorem RG.ownN {P:Program}{N:Nat}{ops:Array Oper}{rest:List Oper}{ts:Nat->AV}{σ:Sto}{K:St->List Eff->Prop}{o:Oper}{c:Call}{f:FuncId}{xs zs zs':List AV}{r r':AV}(π π':List (Nat × Nat)){ks:List Nat}{B0 B0' B1 up:List (Nat × SB)}{d:Option Nat}
  (h:∀q,aj P f zs (gl q ks B0) r (gl q ks B1)) (hg:gd ops ⟨ts,σ⟩ o=some true) (ho:o.op = .call c) (ha:fA ⟨ts,σ⟩ c=some (f,xs))
  (hz:fD (xs.map (rmA π σ (fun _=>0)))=some zs') (hz':zs'.map deN=zs) (hb:rmS π σ (fun _=>0) π=some B0') (hb':B0'=B0)
  (hu:Eb σ π π' ks B1 r=some (r',up)) (hk:okO σ π π' B0=true) (hd:o.dst=d)
  (hr:RG P N ops rest ⟨eH N ts d r',ups σ up⟩ fun s' Es=>K s' (⟨r',up,[]⟩::Es)):RG P N ops (o::rest) ⟨ts,σ⟩ K:=by
 unfold Eb at hu
 split at hu
 ·rename_i up0 r1 e1 e2
  simp only [kS,co,qU,vC] at hu
  obtain⟨rfl,rfl⟩:=hu
  exact RG.own h hg ho ha hz hz' hb hb' e1 e2 hk hd hr
 ·cases hu
theorem Rel.toF {W:World}{F F':Nat->Prop}{μ:Mu}{σ:Sto}(hF:∀b,F b->F' b){x:AV}{v:Value}(h:Rel W F μ σ x v):Rel W F' μ σ x v:=by
 induction h with
 |pure h=>exact .pure (h.to hF)
 |own id ep off v he h1 h=>exact .own id ep off v he h1 h
 |el id ep k j v he h1 h=>exact .el id ep k j v he h1 h
 |row id ep off n v he h1 h=>exact .row id ep off n v he h1 h
 |ref id ep k v he h1 h=>exact .ref id ep k v he h1 h
 |agg cs vs hl h1 _ ih=>exact .agg cs vs hl h1 ih
 |tup cs vs hl _ ih=>exact .tup cs vs hl ih
 |fn f first caps fs cs hf hc _ _ ih ih'=>exact .fn f first caps fs cs hf hc ih ih'
 |any v=>exact .any v
inductive RnF (l:List Nat)(σ σ':Sto):AV->AV->Prop where
 |rn {x x':AV} (h:Rn σ σ' x x'):RnF l σ σ' x x'
 |fz {x y:AV} {l':List Nat} (h:Fz σ x y l') (hl:∀i∈l',i∈l):RnF l σ σ' x y
theorem RnF.is {l:List Nat}{σ σ':Sto}{x y:AV}(e:x=y)(h:y.pu1=true):RnF l σ σ' x y:=.rn (Rn.is e h)
theorem RnF.fzA {l:List Nat}{σ σ':Sto}{x y y':AV}{l':List Nat}(h:fzA σ 6 x=some (y,l'))(hl:(l'.all fun i=>l.any (Nat.beq i))=true)(hy:y=y'):RnF l σ σ' x y':=by
 subst hy
 refine .fz (lD 6 h) fun i hi=>?_
 obtain⟨j,hj,e⟩:=List.any_eq_true.1 (qV.1 hl i hi)
 rw [qY e];exact hj
theorem RnF.rel {W:World}{F:Nat->Prop}{μ:Mu}{l:List Nat}{σ σ':Sto}(hi:Inv W F μ σ){x x':AV}{v:Value}(h:RnF l σ σ' x x')(hx:Rel W F μ σ x v):Rel W (fun b=>F b\/Beh μ σ l b) μ σ' x' v:=by
 cases h with
 |rn h=>exact (h.rel hx).toF fun b hb=>.inl hb
 |fz h hl=>exact .pure ((h.rel hi hx).1.to fun b hb=>hb.imp id fun ⟨id,g1,g2⟩=>⟨id,hl id g1,g2⟩)
def Fn (l:List Nat)(s:St)(σ':Sto):List (Nat × AV)->Prop
 |[]=>True
 |p::T=>RnF l s.σ σ' (s.ts p.1) p.2/\Fn l s σ' T
inductive Bp (l:List Nat)(s:St)(σ':Sto)(id:Nat):SB->Prop where
 |old {sb:SB} (h:iv s σ' id sb):Bp l s σ' id sb
 |box {t:TypeId} {cs cs':List AV} {ep ep':Nat} (h:s.σ id=⟨ep,some (.box t cs)⟩) (hl:cs'.length=cs.length) (h1:cs'.all AV.one=true) (hc:∀(j:Nat) (x x':AV),cs[j]?=some x->cs'[j]?=some x'->RnF l s.σ σ' x x'):Bp l s σ' id ⟨ep',some (.box t cs')⟩
def GJ (l:List Nat)(s:St)(σ':Sto):List (Nat × SB)->Prop
 |[]=>True
 |p::b=>Bp l s σ' p.1 p.2/\GJ l s σ' b
theorem xn {l:List Nat}{s:St}{σ':Sto}:∀{T:List (Nat × AV)},Fn l s σ' T->∀t,RnF l s.σ σ' (s.ts t) (lkT T t)
 |[],_,_=>.rn (.any _)
 |p::T,h,t=>by
  show RnF l s.σ σ' (s.ts t) (cond (Nat.beq t p.1) p.2 (lkT T t))
  cases hb:Nat.beq t p.1
  ·exact xn h.2 t
  ·rw [qY hb]
   exact h.1
inductive Gh (l:List Nat)(σ σ':Sto):aE->aE->Prop where
 |rn {b b':aE} (h:RnB σ σ' b b'):Gh l σ σ' b b'
 |box {t:TypeId} {cs cs':List AV} (hl:cs'.length=cs.length) (h1:∀(j:Nat) (x:AV),cs'[j]?=some x->x.one=true) (h:∀(j:Nat) (x x':AV),cs[j]?=some x->cs'[j]?=some x'->RnF l σ σ' x x'):Gh l σ σ' (.box t cs) (.box t cs')
theorem mA {l:List Nat}{s:St}{σ':Sto}:∀{b:List (Nat × SB)},GJ l s σ' b->∀id bd',(lkB b id).body=some bd'->∃bd,(s.σ id).body=some bd/\Gh l s.σ σ' bd bd'
 |[],_,id,bd',h=>by cases h
 |p::b,h,id,bd',hb=>by
  replace hb:(cond (Nat.beq id p.1) p.2 (lkB b id)).body=some bd':=hb
  cases hq:Nat.beq id p.1
  ·rw [hq] at hb
   exact mA h.2 id bd' hb
  ·rw [hq] at hb
   replace hb:p.2.body=some bd':=hb
   rw [qY hq]
   have h1:=h.1
   obtain⟨pid,psb⟩:=p
   cases h1 with
   |old h=>
    have:(lkB [(pid,psb)] pid).body=some bd':=by
     show (cond (Nat.beq pid pid) psb _).body=_
     rw [si,cond_true];exact hb
    obtain⟨bd,e1,e2⟩:=fm (s:=s) (σ':=σ') (l:=[(pid,psb)]) ⟨h,trivial⟩ pid bd' this
    exact⟨bd,e1,.rn e2⟩
   |box h hl h1 hc=>
    obtain rfl:=qB hb
    exact⟨_,by rw [h],.box hl (fun j x hj=>qV.1 h1 x (qN hj)) hc⟩
theorem AW.freeze {P:Program}{N:Nat}{Q:Exit -> St -> Prop}{s:St}{c:Code}(l:List Nat)(T:List (Nat × AV))(b:List (Nat × SB))(ht:Fn l s (lkB b) T)(hB:GJ l s (lkB b) b)(hd:(l.all fun i=>(lkB b i).body.isNone) = true)
  (h:AW P N c Q (stL T b)):AW P N c Q s:=by
 intro W F μ a hr
 have hi:=hr.inv
 have dead:∀i∈l,(lkB b i).body=none:=fun i hi=>by simpa using qV.1 hd i hi
 have own:∀x,Own μ (lkB b) x->Own μ s.σ x/\¬Beh μ s.σ l x:=fun x ⟨id,ep,bd,c,h1,h2⟩=>by
  obtain⟨bd0,h3,_⟩:=mA hB id bd (by rw [h1])
  refine⟨⟨id,(s.σ id).ep,bd0,c,by rw [<- h3],h2⟩,fun ⟨id',g1,ep',bd',c',g2,g3⟩=>?_⟩
  have:=hi.inj id id' x c c' (by rw [h3];rfl) (by rw [g2];rfl) h2 g3
  subst this
  have:=dead _ g1
  rw [h1] at this
  cases this
 have hs:Stq W F μ s.σ W (fun x=>F x\/Beh μ s.σ l x) μ (lkB b) :=
  ⟨Kp.refl _ _,fun _ h=>.inl h,fun x hx=>hx.imp id fun ⟨id,_,ep,bd,c,h1,h2⟩=>.inl ⟨id,ep,bd,c,h1,h2⟩,fun x hx=>.inl (own x hx).1⟩
 have hrs:RS N W (fun x=>F x\/Beh μ s.σ l x) μ (stL T b) a:=by
  refine⟨fun t=>(xn ht t).rel hi (hr.ts t),hr.defers.go hs,hr.n,⟨fun id ep bd hb=>?_,fun x hx=>⟨(hi.apart x (own x hx).1).1,fun hF=>hF.elim (hi.apart x (own x hx).1).2 (own x hx).2⟩,fun id id' x c c' h1 h2=>?_,fun x hx=>hx.elim (hi.old x) fun ⟨id,_,ep,bd,c,h1,h2⟩=>(hi.apart x ⟨id,ep,bd,c,h1,h2⟩).1,hi.lay.go (fun _ h=>.inl h) fun _ _=>rfl⟩⟩
  ·obtain⟨bd0,h3,hR⟩:=mA hB id bd (by show (lkB b id).body=_;rw [show lkB b id=_ from hb])
   have hBd:=hi.body id (s.σ id).ep bd0 (by rw [<- h3])
   cases hR with
   |rn hR=>
    cases hR with
    |row t m els=>
     rcases hBd with h|⟨bk,cap,cur,e1,e2,e3,e4,e5,e6,e7⟩
     ·exact .inl h
     ·refine .inr ⟨bk,cap,cur,e1,e2,e3,e4,e5,e6,fun k cs j x hk hj=>?_⟩
      obtain⟨g1,v,g2,g3⟩:=e7 k cs j x hk hj
      exact⟨g1,v,g2,g3.to fun b hb=>.inl hb⟩
    |rowT t m n els=>
     rcases hBd.take (σ':=s.σ) n with h|⟨bk,cap,cur,e1,e2,e3,e4,e5,e6,e7⟩
     ·exact .inl h
     ·refine .inr ⟨bk,cap,cur,e1,e2,e3,e4,e5,e6,fun k cs j x hk hj=>?_⟩
      obtain⟨g1,v,g2,g3⟩:=e7 k cs j x hk hj
      exact⟨g1,v,g2,g3.to fun b hb=>.inl hb⟩
    |obj o=>exact hBd
    |@nest t els els' hl h1 hrn=>
     rcases hBd with⟨hn,rfl⟩|⟨b,cap,cur,hp,hh,q1,q2,q3,q4⟩
     ·exact .inl ⟨hn,uD.1 hl⟩
     ·refine .inr ⟨b,cap,cur,hp,hh,by omega,q2,q3,fun k x' hk=>⟨h1 k x' hk,?_⟩⟩
      obtain⟨x,hx⟩:∃x,els[k]?=some x:=⟨_,qA (by rw [<- hl];exact (qD.1 hk).1)⟩
      obtain⟨_,v,hv,hr'⟩:=q4 k x hx
      exact⟨v,hv,((hrn k x x' hx hk).rel hr').toF fun b hb=>.inl hb⟩
    |ghost h h'=>exact⟨hBd.1,by rw [show (stL T b).σ=lkB b from rfl,h'];exact qJ _,fun bd _=>hBd.2.2 _ h⟩
    |@box t cs cs' hl h1 hrn=>
     obtain⟨bk,c,vs,hm,hw,hlv,hv⟩:=hBd
     refine⟨bk,c,vs,hm,hw,by rw [hlv,hl],fun j x' v hj hvj=>⟨h1 j x' hj,?_⟩⟩
     obtain⟨x,hxj⟩:∃x,cs[j]?=some x:=⟨_,qA (by rw [<- hl];exact (qD.1 hj).1)⟩
     exact ((hrn j x x' hxj hj).rel (hv j x v hxj hvj).2).toF fun b hb=>.inl hb
   |@box t cs cs' hl h1 hrn=>
    obtain⟨bk,c,vs,hm,hw,hlv,hv⟩:=hBd
    refine⟨bk,c,vs,hm,hw,by rw [hlv,hl],fun j x' v hj hvj=>⟨h1 j x' hj,?_⟩⟩
    obtain⟨x,hxj⟩:∃x,cs[j]?=some x:=⟨_,qA (by rw [<- hl];exact (qD.1 hj).1)⟩
    exact (hrn j x x' hxj hj).rel hi (hv j x v hxj hvj).2
  ·have g:∀ id,(lkB b id).body.isSome = true -> (s.σ id).body.isSome = true := fun id hb=>by
    obtain⟨bd',e⟩:=vY.1 hb
    obtain⟨bd,e',_⟩:=mA hB id bd' e
    rw [e'];rfl
   exact hi.inj id id' x c c' (g id h1) (g id' h2)
 refine Code.wpA_mono ?_ (h W _ μ a hrs)
 rintro e a' W' ⟨F',μ',s'',hq,hr',hs'⟩
 exact⟨F',μ',s'',hq,hr',(hs.d rfl).trans hs'⟩
theorem nu {P:Program}{N:Nat}{o:Oper}{s:St}{c:Call}{x y:Operand}{t e id cp:Nat}{A:Option Addr}{ti ei:TI}{els:List (List AV)}(ho:o.op = .call c)(hc:c.callee = .builtin .append)(ha:c.args = #[x,y])(hat:c.argTypes = #[t,t])(ht:aB P t ti)(hk:ti.k = .slice e)(he:aB P e ei)(h0:(ei.n == 0)=false)
  (hx:(∃ep,s.ev x = .row id ep 0 els.length/\s.σ id=⟨ep,some (.row e ei.n els)⟩)\/(s.ev x = .raw (.slice none 0 0)/\els=[]))
  (hy:s.ev y = .raw (.slice A 0 cp)) (hb:els.length*ei.sz<=140737488355328) (h63:els.length<=9223372036854775807) :
  ax P N o s ⟨.row id ((s.σ id).ep+1) 0 els.length,[(id,⟨(s.σ id).ep+1,some (.row e ei.n els)⟩)],[]⟩ :=
 jZ (els2:=[]) ho hc ha hat ht hk he h0 [] hx (fun s' W F μ v _ hi hv=>by
  rw [hy] at hv
  exact⟨A,cp,[],hv.raw',dz.nil _ _ _,.inr rfl⟩) hb h63 (uA _) rfl
theorem l7 {P:Program}{W:World}{F:Nat->Prop}{μ:Mu}{σ:Sto}(hi:Inv W F μ σ){t:TypeId}{ti:TI}{x:AV}{v0:Value}{cs:List AV}{l:List Nat}{r:AV}(ht:aB P t ti)(hx:Rel W F μ σ x v0)(hp:CA σ x cs l)(hr:ldA ti cs=some r) :
  ∃A,v0 = .pointer (some A)/\∃v,(loadVar t A).run P W = .ok v W/\Rel W F μ σ r v:=by
 obtain⟨b,off,hv,hc⟩:=hp.cells hi hx
 refine⟨_,hv,?_⟩
 unfold ldA at hr
 cases hag:ti.k.ag with
 |true=>
  rw [hag,cond_true] at hr
  cases hle:Nat.ble ti.n cs.length with
  |false=>rw [hle] at hr;cases hr
  |true=>
   have hn:ti.n<=cs.length:=qW hle
   rw [hle,cond_true] at hr
   obtain rfl:=qB hr
   let f:Nat->Value:=fun j=>(W.cell? ⟨b,off+j,none⟩).getD undef
   have get:∀(j:Nat) (y:AV),cs[j]?=some y->W.cell? ⟨b,off+j,none⟩=some (f j)/\y.one=true/\Rel W F μ σ y (f j):=fun j y hj=>by
    obtain⟨g1,u,g2,g3⟩:=hc j y hj
    have:f j=u:=by simp only [f,g2];rfl
    exact⟨by rw [this];exact g2,g1,by rw [this];exact g3⟩
   have hrun:(loadCells ⟨b,off,none⟩ ti.n).run P W = .ok ((List.range ti.n).map f).toArray W:=run_loadCells W _ ti.n f fun j hj=>by
    rw [fY (W:=W)]
    exact (get j _ (qA (by omega))).1
   refine⟨.agg ((List.range ti.n).map f).toArray,?_,.agg _ _ ?_ (fun j x hj=>?_) (fun j x v hj hv'=>?_)⟩
   ·simp only [loadVar,kA2,kA3,kA1,ht.agg,hag,if_true,ht.size,hrun]
   ·simp;omega
   ·rw [uF] at hj
    split at hj
    ·exact (get j x hj).2.1
    ·cases hj
   ·rw [uF] at hj
    split at hj
    ·rename_i hlt
     have:f j=v:=by simpa [hlt] using hv'
     rw [<- this]
     exact (get j x hj).2.2
    ·cases hj
 |false=>
  rw [hag,cond_false,List.head?_eq_getElem?] at hr
  obtain⟨g1,u,g2,g3⟩:=hc 0 _ hr
  refine⟨u,?_,g3⟩
  have hrun:(load ⟨b,off,none⟩).run P W = .ok u W:=by simp [load,Sem.run,show W.cell? ⟨b,off,none⟩=some u from g2]
  simp only [loadVar,kA2,kA3,kA1,ht.agg,hag,Bool.false_eq_true,if_false,hrun]
theorem mr {P:Program}(w:World)(t e:TypeId)(ie:TypeInfo)(hu:P.underlying t=some (.slice e))(hie:P.info? e=some ie) :
  (Instr.buildSlice t 0 #[]).run P w = .ok (.slice (some ⟨w.heap.size,0,none⟩) 0 0) (w.alloc (.cells #[] e)):=by
 have e0:Array.map (fun _=>(default:Value)) (Array.range 0) = #[]:=by
  apply Array.eq_empty_of_size_eq_zero
  simp
 simp [Instr.buildSlice,kA9 hu,sizeOf,typeInfo,hie,newRow,Instr.fill,e0]
theorem dj {P:Program}{N:Nat}{o:Oper}{s:St}{t e id:Nat}{ti ei:TI}(ho:o.op = .buildSlice t 0 #[])(ht:aB P t ti)(hk:ti.k = .slice e)(he:aB P e ei):ax P N o s ⟨.row id ((s.σ id).ep+1) 0 0,[(id,⟨(s.σ id).ep+1,some (.row e ei.n [])⟩)],[]⟩:=by
 obtain⟨inf,d,z,q1,_⟩:=he.h
 refine f9 [] fun s' W F μ a g1 g2 g3 hs=>?_
 refine⟨.slice (some ⟨W.heap.size,0,none⟩) 0 0,[],e,0,?_,fun μ' σ' hst hσ hμ=>⟨.inr ⟨W.heap.size,0,#[],rfl,kA5 W _,qJ _,by decide,by simp,fun k cs hk=>by simp at hk,fun k cs j x hk=>by simp at hk⟩,.row id _ 0 0 _ (by rw [hσ];exact qJ _) rfl fun bd' m' l' hbd hL=>?_⟩⟩
 ·have hrun:=mr (P:=P) W t e inf (ht.slice hk) q1
  simp only [execOp,ho,List.map_toArray,List.map_nil,kA2,hrun,kA1,kA3]
 ·rw [hσ] at hbd
  obtain rfl:aE.row e ei.n []=bd':=by simpa using hbd
  exact⟨qR _,by rw [hμ];simp⟩
inductive RnN (id ep:Nat)(σ σ':Sto):AV->AV->Prop where
 |rn {x x':AV} (h:Rn σ σ' x x'):RnN id ep σ σ' x x'
 |nil (h:Nat.ble ep (σ' id).ep=true):RnN id ep σ σ' (.raw (.slice none 0 0)) (.row id ep 0 0)
theorem RnN.is {id ep:Nat}{σ σ':Sto}{x y:AV}(e:x=y)(h:y.pu1=true):RnN id ep σ σ' x y:=.rn (Rn.is e h)
theorem RnN.rel {W:World}{F:Nat->Prop}{μ:Mu}{id ep:Nat}{σ σ':Sto}(hμ:μ id=none){x x':AV}{v:Value}(h:RnN id ep σ σ' x x')(hx:Rel W F μ σ x v):Rel W F μ σ' x' v:=by
 cases h with
 |rn h=>exact h.rel hx
 |nil h=>
  rw [hx.raw']
  exact .row _ _ _ _ _ (qW h) rfl fun bd m l _ _=>⟨by omega,by rw [hμ]⟩
def Dy (id ep:Nat)(s:St)(σ':Sto):List (Nat × AV)->Prop
 |[]=>True
 |p::T=>RnN id ep s.σ σ' (s.ts p.1) p.2/\Dy id ep s σ' T
inductive sd (i ep:Nat)(s:St)(σ':Sto)(id:Nat):SB->Prop where
 |old {sb:SB} (h:iv s σ' id sb):sd i ep s σ' id sb
 |box {t:TypeId} {cs cs':List AV} {e e':Nat} (h:s.σ id=⟨e,some (.box t cs)⟩) (hl:cs'.length=cs.length) (h1:cs'.all AV.one=true) (hc:∀(j:Nat) (x x':AV),cs[j]?=some x->cs'[j]?=some x'->RnN i ep s.σ σ' x x'):sd i ep s σ' id ⟨e',some (.box t cs')⟩
def Ek (i ep:Nat)(s:St)(σ':Sto):List (Nat × SB)->Prop
 |[]=>True
 |p::b=>sd i ep s σ' p.1 p.2/\Ek i ep s σ' b
theorem wX {i ep:Nat}{s:St}{σ':Sto}:∀{T:List (Nat × AV)},Dy i ep s σ' T->∀t,RnN i ep s.σ σ' (s.ts t) (lkT T t)
 |[],_,_=>.rn (.any _)
 |p::T,h,t=>by
  show RnN i ep s.σ σ' (s.ts t) (cond (Nat.beq t p.1) p.2 (lkT T t))
  cases hb:Nat.beq t p.1
  ·exact wX h.2 t
  ·rw [qY hb]
   exact h.1
inductive Gs (i ep:Nat)(σ σ':Sto):aE->aE->Prop where
 |rn {b b':aE} (h:RnB σ σ' b b'):Gs i ep σ σ' b b'
 |box {t:TypeId} {cs cs':List AV} (hl:cs'.length=cs.length) (h1:∀(j:Nat) (x:AV),cs'[j]?=some x->x.one=true) (h:∀(j:Nat) (x x':AV),cs[j]?=some x->cs'[j]?=some x'->RnN i ep σ σ' x x'):Gs i ep σ σ' (.box t cs) (.box t cs')
theorem mJ {i ep:Nat}{s:St}{σ':Sto}:∀{b:List (Nat × SB)},Ek i ep s σ' b->∀id bd',(lkB b id).body=some bd'->∃bd,(s.σ id).body=some bd/\Gs i ep s.σ σ' bd bd'
 |[],_,id,bd',h=>by cases h
 |p::b,h,id,bd',hb=>by
  replace hb:(cond (Nat.beq id p.1) p.2 (lkB b id)).body=some bd':=hb
  cases hq:Nat.beq id p.1
  ·rw [hq] at hb
   exact mJ h.2 id bd' hb
  ·rw [hq] at hb
   replace hb:p.2.body=some bd':=hb
   rw [qY hq]
   have h1:=h.1
   obtain⟨pid,psb⟩:=p
   cases h1 with
   |old h=>
    have:(lkB [(pid,psb)] pid).body=some bd':=by
     show (cond (Nat.beq pid pid) psb _).body=_
     rw [si,cond_true];exact hb
    obtain⟨bd,e1,e2⟩:=fm (s:=s) (σ':=σ') (l:=[(pid,psb)]) ⟨h,trivial⟩ pid bd' this
    exact⟨bd,e1,.rn e2⟩
   |box h hl h1 hc=>
    obtain rfl:=qB hb
    exact⟨_,by rw [h],.box hl (fun j x hj=>qV.1 h1 x (qN hj)) hc⟩
theorem AW.nilBd {P:Program}{N:Nat}{Q:Exit -> St -> Prop}{s:St}{c:Code}(i ep:Nat)(bd0:aE)(hbd:∀ (W:World) (F:Nat -> Prop) (μ:Mu) (σ:Sto),aM W F μ σ none bd0)(T:List (Nat × AV))(b:List (Nat × SB))(ht:Dy i ep ⟨s.ts,up1 s.σ i ⟨(s.σ i).ep + 1,some bd0⟩⟩ (lkB b) T)(hB:Ek i ep ⟨s.ts,up1 s.σ i ⟨(s.σ i).ep + 1,some bd0⟩⟩ (lkB b) b)
  (h:AW P N c Q (stL T b)):AW P N c Q s:=by
 intro W F μ a hr
 obtain⟨hs,hi⟩:=cy hr.inv i none ((s.σ i).ep+1) bd0 (Kp.refl _ W) (fun b c e=>by cases e) (.inl (Nat.lt_succ_self _)) (fun _=>hbd _ _ _ _)
 have hr1:RS N W F (upm μ i none) ⟨s.ts,up1 s.σ i ⟨(s.σ i).ep+1,some bd0⟩⟩ a:=⟨fun t=>(hr.ts t).stp hr.inv hs,hr.defers.go hs.q,hr.n,hi⟩
 have hμ:upm μ i none i=none:=if_pos rfl
 generalize upm μ i none=μ2 at hs hi hr1 hμ
 have hs:=hs.q
 generalize hs2:(⟨s.ts,up1 s.σ i ⟨(s.σ i).ep+1,some bd0⟩⟩:St)=s2 at ht hB hr1
 have hσ2:up1 s.σ i ⟨(s.σ i).ep+1,some bd0⟩=s2.σ:=by rw [<- hs2]
 rw [hσ2] at hs hi
 have own:∀x,Own μ2 (lkB b) x->Own μ2 s2.σ x:=fun x ⟨id,e,bd,c,h1,h2⟩=>by
  obtain⟨bdx,h3,_⟩:=mJ hB id bd (by rw [h1])
  exact⟨id,(s2.σ id).ep,bdx,c,by rw [<- h3],h2⟩
 have hs':Stq W F μ2 s2.σ W F μ2 (lkB b):=⟨Kp.refl _ _,fun _ h=>h,fun x hx=>.inl hx,fun x hx=>.inl (own x hx)⟩
 have hrs:RS N W F μ2 (stL T b) a:=by
  refine⟨fun t=>(wX ht t).rel hμ (hr1.ts t),hr1.defers.go hs',hr1.n,⟨fun id e bd hb=>?_,fun x hx=>hi.apart x (own x hx),fun id id' x c c' h1 h2=>?_,hi.old,hi.lay⟩⟩
  ·obtain⟨bdx,h3,hR⟩:=mJ hB id bd (by show (lkB b id).body=_;rw [show lkB b id=_ from hb])
   have hBd:=hi.body id (s2.σ id).ep bdx (by rw [<- h3])
   cases hR with
   |rn hR=>
    cases hR with
    |row t m els=>exact hBd
    |rowT t m n els=>exact hBd.take n
    |obj o=>exact hBd
    |@nest t els els' hl h1 hrn=>
     rcases hBd with⟨hn,rfl⟩|⟨b,cap,cur,hp,hh,q1,q2,q3,q4⟩
     ·exact .inl ⟨hn,uD.1 hl⟩
     ·refine .inr ⟨b,cap,cur,hp,hh,by omega,q2,q3,fun k x' hk=>⟨h1 k x' hk,?_⟩⟩
      obtain⟨x,hx⟩:∃x,els[k]?=some x:=⟨_,qA (by rw [<- hl];exact (qD.1 hk).1)⟩
      obtain⟨_,v,hv,hr'⟩:=q4 k x hx
      exact⟨v,hv,(hrn k x x' hx hk).rel hr'⟩
    |ghost h h'=>exact⟨hBd.1,by rw [show (stL T b).σ=lkB b from rfl,h'];exact qJ _,fun bd _=>hBd.2.2 _ h⟩
    |@box t cs cs' hl h1 hrn=>
     obtain⟨bk,c,vs,hm,hw,hlv,hv⟩:=hBd
     refine⟨bk,c,vs,hm,hw,by rw [hlv,hl],fun j x' v hj hvj=>⟨h1 j x' hj,?_⟩⟩
     obtain⟨x,hxj⟩:∃x,cs[j]?=some x:=⟨_,qA (by rw [<- hl];exact (qD.1 hj).1)⟩
     exact (hrn j x x' hxj hj).rel (hv j x v hxj hvj).2
   |@box t cs cs' hl h1 hrn=>
    obtain⟨bk,c,vs,hm,hw,hlv,hv⟩:=hBd
    refine⟨bk,c,vs,hm,hw,by rw [hlv,hl],fun j x' v hj hvj=>⟨h1 j x' hj,?_⟩⟩
    obtain⟨x,hxj⟩:∃x,cs[j]?=some x:=⟨_,qA (by rw [<- hl];exact (qD.1 hj).1)⟩
    exact (hrn j x x' hxj hj).rel hμ (hv j x v hxj hvj).2
  ·have g:∀ id,(lkB b id).body.isSome = true -> (s2.σ id).body.isSome = true := fun id hb=>by
    obtain⟨bd',e⟩:=vY.1 hb
    obtain⟨bd,e',_⟩:=mJ hB id bd' e
    rw [e'];rfl
   exact hi.inj id id' x c c' (g id h1) (g id' h2)
 refine Code.wpA_mono ?_ (h W _ μ2 a hrs)
 rintro e a' W' ⟨F',μ',s'',hq,hr',hs''⟩
 exact⟨F',μ',s'',hq,hr',((hs.trans hs').d rfl).trans hs''⟩
theorem AW.nilRow {P:Program}{N:Nat}{Q:Exit->St->Prop}{s:St}{c:Code}(i ep t m:Nat)(T:List (Nat × AV))(b:List (Nat × SB))(ht:Dy i ep ⟨s.ts,up1 s.σ i ⟨(s.σ i).ep+1,some (.row t m [])⟩⟩ (lkB b) T)(hB:Ek i ep ⟨s.ts,up1 s.σ i ⟨(s.σ i).ep+1,some (.row t m [])⟩⟩ (lkB b) b)
  (h:AW P N c Q (stL T b)):AW P N c Q s:=AW.nilBd i ep (.row t m []) (fun _ _ _ _=>.inl ⟨rfl,rfl⟩) T b ht hB h
def RnL (σ σ':Sto):List AV->List AV->Prop
 |[],[]=>True
 |x::xs,y::ys=>Rn σ σ' x y/\RnL σ σ' xs ys
 |_,_=>False
theorem tZ {σ σ':Sto}:∀{xs ys:List AV},RnL σ σ' xs ys->ys.length=xs.length/\∀(j:Nat) (x y:AV),xs[j]?=some x->ys[j]?=some y->Rn σ σ' x y
 |[],[],_=>⟨rfl,fun j x y h=>by simp at h⟩
 |x::xs,y::ys,h=>by
  obtain⟨h1,h2⟩:=tZ h.2
  refine⟨by simp [h1],fun j a b ha hb=>?_⟩
  cases j with
  |zero=>
   obtain rfl:x=a:=by simpa using ha
   obtain rfl:y=b:=by simpa using hb
   exact h.1
  |succ j=>exact h2 j a b (by simpa using ha) (by simpa using hb)
 |[],_::_,h=>h.elim
 |_::_,[],h=>h.elim
theorem iv.boxL {s:St}{σ':Sto}{id:Nat}{t:TypeId}{cs cs':List AV}{ep ep':Nat}(h:s.σ id=⟨ep,some (.box t cs)⟩)(hc:RnL s.σ σ' cs cs')(h1:cs'.all AV.one=true):iv s σ' id ⟨ep',some (.box t cs')⟩ :=
 .box h (tZ hc).1 h1 (tZ hc).2
def GM (i ep:Nat)(σ σ':Sto):List AV->List AV->Prop
 |[],[]=>True
 |x::xs,y::ys=>RnN i ep σ σ' x y/\GM i ep σ σ' xs ys
 |_,_=>False
theorem pZ {i ep:Nat}{σ σ':Sto}:∀{xs ys:List AV},GM i ep σ σ' xs ys->ys.length=xs.length/\∀(j:Nat) (x y:AV),xs[j]?=some x->ys[j]?=some y->RnN i ep σ σ' x y
 |[],[],_=>⟨rfl,fun j x y h=>by simp at h⟩
 |x::xs,y::ys,h=>by
  obtain⟨h1,h2⟩:=pZ h.2
  refine⟨by simp [h1],fun j a b ha hb=>?_⟩
  cases j with
  |zero=>
   obtain rfl:x=a:=by simpa using ha
   obtain rfl:y=b:=by simpa using hb
   exact h.1
  |succ j=>exact h2 j a b (by simpa using ha) (by simpa using hb)
 |[],_::_,h=>h.elim
 |_::_,[],h=>h.elim
theorem sd.boxL {i e0:Nat}{s:St}{σ':Sto}{id:Nat}{t:TypeId}{cs cs':List AV}{ep ep':Nat}(h:s.σ id=⟨ep,some (.box t cs)⟩)(hc:GM i e0 s.σ σ' cs cs')(h1:cs'.all AV.one=true):sd i e0 s σ' id ⟨ep',some (.box t cs')⟩ :=
 .box h (pZ hc).1 h1 (pZ hc).2
theorem Rm.ownIs {π:List (Nat × Nat)}{σ σ':Sto}{x:AV}{id id' ep ep' off:Nat}{bd bd':aE}(e:x = .own id ep off)(hm:lkP π id=some id')(h:σ id=⟨ep,some bd⟩)(h':σ' id'=⟨ep',some bd'⟩):Rm π σ σ' x (.own id' ep' off):=e ▸ .own (gO hm) h h'
theorem Rm.rowIs {π:List (Nat × Nat)}{σ σ':Sto}{x:AV}{id id' ep ep' off n t m:Nat}{els:List (List AV)}(e:x = .row id ep off n)(hm:lkP π id=some id')(h:σ id=⟨ep,some (.row t m els)⟩)(h':σ' id'=⟨ep',some (.row t m els)⟩):Rm π σ σ' x (.row id' ep' off n):=e ▸ .row (gO hm) h h'
theorem cO {P:Program}{fn:Func}{s:St}{b1:List (Nat × SB)}{e:Exit}(hr:fn.results = #[])(he:e = .normal\/e = .ret)(hB:WkB s (lkB b1) b1):y9 P fn (.tup []) b1 e s :=
 ⟨he,_,rN hr s,.tup rfl (fun j x x' h=>by simp at h),hB⟩
theorem dW {P:Program}{fn:Func}{t:Tmp}{s:St}{b1:List (Nat × SB)}{r:AV}(hr:fn.results = #[.tmp t])(hx:Rm (b1.map fun p=>(p.1,p.1)) s.σ (lkB b1) (s.ts t) r)(hB:WkB s (lkB b1) b1):y9 P fn r b1 .ret s :=
 ⟨.inr rfl,_,pV hr s,hx,hB⟩
theorem ni {P:Program}{fn:Func}{t u:Tmp}{s:St}{b1:List (Nat × SB)}{r q:AV}(hr:fn.results = #[.tmp t,.tmp u])(hx:Rm (b1.map fun p=>(p.1,p.1)) s.σ (lkB b1) (s.ts t) r)(hy:Rm (b1.map fun p=>(p.1,p.1)) s.σ (lkB b1) (s.ts u) q)(hB:WkB s (lkB b1) b1):y9 P fn (.tup [r,q]) b1 .ret s :=
 ⟨.inr rfl,_,BJ hr s,.tup rfl (aQ hx (aQ hy cP)),hB⟩
theorem AW.cutT {P:Program}{N:Nat}{Q:Exit->St->Prop}{s:St}{x y:Code}{ι:Type}(T:ι->List (Nat × AV))(B:ι->List (Nat × SB))(J:ι->Prop)(h1:AW P N x (hZ (fun s'=>∃i,J i/\WkT s' (lkB (B i)) (T i)/\WkB s' (lkB (B i)) (B i)) Q) s)
  (h2:∀i,J i->AW P N y Q (stL (T i) (B i))):AW P N x (hZ (AW P N y Q) Q) s :=
 h1.mono fun e s' hq=>by
  cases e with
  |normal=>
   obtain⟨i,hJ,ht,hB⟩:=hq
   exact AW.only _ _ ht hB (h2 i hJ)
  |_=>exact hq
theorem oJ {P:Program}{fn:Func}{s:St}{e:Exit}(hr:fn.results = #[])(he:e = .normal\/e = .ret):yx P fn (.tup []) e s :=
 ⟨he,_,[],rN hr s,lD 6 rfl⟩
end Go.Proofs.YtdidjpohnopihaaGreat.Sm
end
end
section
namespace Go.Proofs.YtdidjpohnopihaaGreat.Sm
open Go.RowKit
def DA (T:TT)(f:Nat->AV->AV->Option Bool)(cs ds:List AV):List (Nat × Nat)->Option Bool
 |[]=>some true
 |p::fs=>match dZ T p.1 with
  |some fi=>match sL fi p.2 cs,sL fi p.2 ds with
   |some a,some b=>match f p.1 a b,DA T f cs ds fs with
    |some r,some q=>some (r && q)
    |_,_=>none
   |_,_=>none
  |none=>none
def DJ (f:AV->AV->Option Bool)(ei:TI)(cs ds:List AV):Nat->Nat->Option Bool
 |0,_=>some true
 |m+1,i=>match sL ei (i*ei.n) cs,sL ei (i*ei.n) ds with
  |some a,some b=>match f a b,DJ f ei cs ds m (i+1) with
   |some r,some q=>some (r && q)
   |_,_=>none
  |_,_=>none
def eqA (T:TT):Nat->Nat->AV->AV->Option Bool
 |0,_,_,_=>none
 |k+1,t,x,y=>match dZ T t with
  |some ⟨.strct fs,_,_,_⟩=>match x,y with
   | .agg cs,.agg ds=>DA T (eqA T k) cs ds fs
   |_,_=>none
  |some ⟨.arr n e,_,_,_⟩=>match x,y with
   | .agg cs,.agg ds=>match dZ T e with
    |some ei=>DJ (eqA T k e) ei cs ds n 0
    |none=>none
   |_,_=>none
  |some ⟨.bool,_,_,_⟩=>match x,y with
   | .b p,.b q=>some (p == q)
   |_,_=>none
  |some ⟨.str,_,_,_⟩=>match x,y with
   | .s p,.s q=>some (decide (p=q))
   |_,_=>none
  |some ⟨.int _,_,_,_⟩=>match x,y with
   | .i k p,.i k' q=>if k=k' then some (decide (p=q)) else none
   | .u p,.u q=>some (decide (p=q))
   | .y p,.y q=>some (decide (p=q))
   |_,_=>none
  |_=>none
def eqP (P:Program)(T:TT):Nat->Nat->Bool
 |0,_=>false
 |k+1,t=>match P.underlying t with
  | some (.struct fs) => !P.stoodInHeld t && fs.toList.all fun f => (decide (f.name ≠ "_")) && eqP P T k f.type
  |some (.array _ e)=>eqP P T k e
  |_=>true
section
variable {P:Program} {T:TT} {W:World} {F:Nat -> Prop} {μ:Mu} {σ:Sto}
theorem yh {t:TypeId}(hu:P.underlying t=some .string)(d:Nat)(p q:List UInt8):(Op.equalIn (d+1) t (.string ⟨p.toArray⟩) (.string ⟨q.toArray⟩)).run P W = .ok (decide (p=q)) W:=by
 simp only [Op.equalIn,kA2,kA9 hu,kA1,kA3]
 congr 1
 rw [beq_toListBytes,ByteArray.toList_eq,ByteArray.toList_eq,Bool.eq_iff_iff]
 simp
theorem kW {t:TypeId}{k0:IntKind}(hu:P.underlying t=some (.int k0))(d:Nat)(k:IntKind)(p q:Int):(Op.equalIn (d+1) t (.int k p) (.int k q)).run P W = .ok (decide (p=q)) W:=by
 simp only [Op.equalIn,kA2,kA9 hu,kA1,if_true,kA3]
 congr 1
theorem Iv (p q:UInt64):decide ((p.toNat:Int)=(q.toNat:Int))=decide (p=q):=decide_eq_decide.2 (by rw [j8])
theorem dd8 (p q:UInt8):decide ((p.toNat:Int)=(q.toNat:Int))=decide (p=q):=decide_eq_decide.2 (by rw [li])
theorem su {f:Nat->AV->AV->Option Bool}{d:Nat}{cs ds:List AV}{vs us:List Value}(hT:fW P T=true)(hl:vs.length=cs.length)(h1:∀(j:Nat) (x:AV),cs[j]?=some x->x.one=true)(hp:∀(j:Nat) (x:AV) (v:Value),cs[j]?=some x->vs[j]?=some v->Rel W F μ σ x v)
  (hl':us.length=ds.length) (h1':∀(j:Nat) (x:AV),ds[j]?=some x->x.one=true) (hp':∀(j:Nat) (x:AV) (v:Value),ds[j]?=some x->us[j]?=some v->Rel W F μ σ x v) :
  ∀ (fs : List Field) (_ : ∀ g ∈ fs, g.name ≠ "_" /\ ∀ a b r, f g.type a b = some r -> ∀ v u, Rel W F μ σ a v -> Rel W F μ σ b u -> (Op.equalIn d g.type v u).run P W = .ok r W) (r : Bool), DA T f cs ds (fs.map fun g => (g.type, g.offset)) = some r -> (Op.eqFields d vs.toArray us.toArray fs).run P W = .ok r W
 |[],_,r,h=>by
  obtain rfl:=qB h
  rfl
 |g::fs,hg,r,h=>by
  simp only [vE,DA] at h
  split at h
  case h_2=>cases h
  rename_i fi hfi
  split at h
  case h_2=>cases h
  rename_i a b ha hb
  split at h
  case h_2=>cases h
  rename_i r1 r2 hr1 hr2
  obtain rfl:=qB h
  obtain⟨v,hv,rv⟩:=kE (W:=W) (aW hT hfi) hl h1 hp ha
  obtain⟨u,hu,ru⟩:=kE (W:=W) (aW hT hfi) hl' h1' hp' hb
  have he:=(hg g vD).2 a b r1 hr1 v u rv ru
  have ih:=su (f:=f) (d:=d) hT hl h1 hp hl' h1' hp' fs (fun g' hg'=>hg g' (qZ _ hg')) r2 hr2
  simp only [Op.eqFields,if_pos (hg g vD).1,kA2,hv,hu,he,kA1]
  cases r1 with
  |true=>simpa using ih
  |false=>simp
theorem se {f:AV->AV->Option Bool}{d e:Nat}{ei:TI}{cs ds:List AV}{vs us:List Value}(he:aB P e ei)(hl:vs.length=cs.length)(h1:∀(j:Nat) (x:AV),cs[j]?=some x->x.one=true)(hp:∀(j:Nat) (x:AV) (v:Value),cs[j]?=some x->vs[j]?=some v->Rel W F μ σ x v)
  (hl':us.length=ds.length) (h1':∀(j:Nat) (x:AV),ds[j]?=some x->x.one=true) (hp':∀(j:Nat) (x:AV) (v:Value),ds[j]?=some x->us[j]?=some v->Rel W F μ σ x v)
  (hf:∀a b r,f a b=some r->∀v u,Rel W F μ σ a v->Rel W F μ σ b u->(Op.equalIn d e v u).run P W = .ok r W) :
  ∀(m i:Nat) (r:Bool),DJ f ei cs ds m i=some r->(forIn (List.range' i m) ((none,()):Option Bool × Unit) fun i _=>(do
    let a <- part e vs.toArray (i*ei.n)
    let b <- part e us.toArray (i*ei.n)
    let c <- Op.equalIn d e a b
    if (!c)=true then pure (ForInStep.done (some false,())) else pure (ForInStep.yield (none,())):Sem (ForInStep (Option Bool × Unit)))).run P W = .ok (cond r none (some false),()) W
 |0,i,r,h=>by
  obtain rfl:=qB h
  simp
 |m+1,i,r,h=>by
  simp only [DJ] at h
  split at h
  case h_2=>cases h
  rename_i a b ha hb
  split at h
  case h_2=>cases h
  rename_i r1 r2 hr1 hr2
  obtain rfl:=qB h
  obtain⟨v,hv,rv⟩:=kE (W:=W) he hl h1 hp ha
  obtain⟨u,hu,ru⟩:=kE (W:=W) he hl' h1' hp' hb
  have hq:=hf a b r1 hr1 v u rv ru
  have ih:=se (f:=f) (d:=d) he hl h1 hp hl' h1' hp' hf m (i+1) r2 hr2
  simp only [List.range'_succ,List.forIn_cons,kA2,hv,hu,hq,kA1]
  cases r1 with
  |true=>simpa using ih
  |false=>simp
theorem pW (hT:fW P T=true):∀(k:Nat) (d:Nat) (_:k<=d) (t:TypeId) (x y:AV) (r:Bool),eqP P T k t=true->eqA T k t x y=some r->∀v u,Rel W F μ σ x v->Rel W F μ σ y u->(Op.equalIn d t v u).run P W = .ok r W
 |0,_,_,_,_,_,_,hp,_,_,_,_,_=>by cases hp
 |k+1,0,hd,_,_,_,_,_,_,_,_,_,_=>by omega
 |k+1,d+1,hd,t,x,y,r,hp,h,v,u,hv,hu=>by
  have ih:=fun t x y r=>pW hT k d (by omega) t x y r
  simp only [eqA] at h
  split at h
  ·rename_i fs n sz z ht
   have hti:=aW hT ht
   split at h
   case h_2=>cases h
   rename_i cs ds
   obtain⟨fs',hU,hfs⟩:=hti.strct rfl
   obtain⟨vs,rfl,hl,h1,hr⟩:=hv.agg'
   obtain⟨us,rfl,hl',h1',hr'⟩:=hu.agg'
   have hF:P.underlying t=some (.struct (P.fieldsOf t)):=by rw [Program.fieldsOf,hU]
   have hf2:P.fieldsOf t=fs':=by rw [Program.fieldsOf,hU]
   simp only [eqP,hU,qQ,Bool.not_eq_true',qV,vM] at hp
   rw [run_equalIn_struct W d t _ _ hF hp.1,hf2]
   refine su hT hl h1 hr hl' h1' hr' fs'.toList (fun g hg=>⟨(hp.2 g hg).1,fun a b r he v u hv hu=>ih g.type a b r (hp.2 g hg).2 he v u hv hu⟩) r ?_
   rw [hfs];exact h
  ·rename_i n e n' sz z ht
   have hti:=aW hT ht
   split at h
   case h_2=>cases h
   rename_i cs ds
   split at h
   case h_2=>cases h
   rename_i ei hei
   have hU:=hti.array rfl
   obtain⟨vs,rfl,hl,h1,hr⟩:=hv.agg'
   obtain⟨us,rfl,hl',h1',hr'⟩:=hu.agg'
   have hee:=aW hT hei
   simp only [eqP,hU] at hp
   have:=se (d:=d) hee hl h1 hr hl' h1' hr' (fun a b r he v u hv hu=>ih e a b r hp he v u hv hu) n 0 r h
   rw [Op.equalIn]
   simp only [kA2,kA9 hU,kA1,hee.size,Std.Legacy.Range.forIn_eq_forIn_range',Std.Legacy.Range.size]
   rw [show (n-0+1-1) / 1=n by simp,this]
   cases r <;> rfl
  ·rename_i n sz z ht
   split at h
   case h_2=>cases h
   obtain rfl:=qB h
   rw [hv.b',hu.b']
   exact oR ((aW hT ht).bool rfl) W d _ _
  ·rename_i n sz z ht
   split at h
   case h_2=>cases h
   obtain rfl:=qB h
   rw [hv.s',hu.s']
   exact yh ((aW hT ht).str rfl) d _ _
  ·rename_i k0 n sz z ht
   have hU:=(aW hT ht).int rfl
   split at h
   ·split at h
    case isFalse=>cases h
    rename_i he
    subst he
    obtain rfl:=qB h
    rw [hv.i',hu.i']
    exact kW hU d _ _ _
   ·obtain rfl:=qB h
    rw [hv.u',hu.u']
    exact (kW hU d _ _ _).trans (by rw [Iv])
   ·obtain rfl:=qB h
    rw [hv.y',hu.y']
    exact (kW hU d _ _ _).trans (by rw [dd8])
   ·cases h
  ·cases h
end
theorem eG {P:Program}{N:Nat}{T:TT}{o:Oper}{s:St}{t yt:TypeId}{x y:Operand}{cs ds:List AV}{b r:Bool}(ho:o.op = .binOp .eql t x y yt)(hT:fW P T=true)(hP:eqP P T 6 t=true)(hg:P.eqGuardType P.depth t=false)(hx:s.ev x = .agg cs)(hy:s.ev y = .agg ds)(he:eqA T 6 t (.agg cs) (.agg ds)=some b)(hb:b=r):ax P N o s ⟨.b r,[],[]⟩:=by
 subst hb
 refine az [] _ fun s' W F μ a h1 h2 hr=>⟨.bool b,?_,.pure (.b b)⟩
 have ex:=hr.ev x
 have ey:=hr.ev y
 rw [h1 x (by rw [ho];simp [Op.operands]),hx] at ex
 rw [h1 y (by rw [ho];simp [Op.operands]),hy] at ey
 have hq:=pW (W:=W) hT 6 10000 (by omega) t _ _ b hP he _ _ ex ey
 obtain⟨vs,ev,_⟩:=ex.agg'
 obtain⟨us,eu,_⟩:=ey.agg'
 rw [ev,eu] at hq
 simp only [execOp,ho,ev,eu,kA2,run_eqGuard_agg W _ _ _ _ _ _ hg,kA1,run_eql_struct,hq,kA3]
theorem mQ {P:Program}{N:Nat}{T:TT}{o:Oper}{s:St}{t yt:TypeId}{x y:Operand}{cs ds:List AV}{b r:Bool}(ho:o.op = .binOp .neq t x y yt)(hT:fW P T=true)(hP:eqP P T 6 t=true)(hg:P.eqGuardType P.depth t=false)(hx:s.ev x = .agg cs)(hy:s.ev y = .agg ds)(he:eqA T 6 t (.agg cs) (.agg ds)=some b)(hb:(!b)=r):ax P N o s ⟨.b r,[],[]⟩:=by
 subst hb
 refine az [] _ fun s' W F μ a h1 h2 hr=>⟨.bool (!b),?_,.pure (.b _)⟩
 have ex:=hr.ev x
 have ey:=hr.ev y
 rw [h1 x (by rw [ho];simp [Op.operands]),hx] at ex
 rw [h1 y (by rw [ho];simp [Op.operands]),hy] at ey
 have hq:=pW (W:=W) hT 6 10000 (by omega) t _ _ b hP he _ _ ex ey
 obtain⟨vs,ev,_⟩:=ex.agg'
 obtain⟨us,eu,_⟩:=ey.agg'
 rw [ev,eu] at hq
 simp only [execOp,ho,ev,eu,kA2,run_eqGuard_agg W _ _ _ _ _ _ hg,kA1,run_neq_struct,hq,kA3]
def yI (T:TT)(s:St):ResultVar->Option AV
 | .tmp t=>some (s.ts t)
 | .cell a ty=>match dZ T ty,caA s.σ (s.ts a) with
  |some ti,some (cs,_)=>ldA ti cs
  |_,_=>none
def lW (tmps:Array Value):ResultVar->Sem Value
 | .tmp t=>pure (tmps.getD t undef)
 | .cell p t=>do loadVar t (<- asAddr (tmps.getD p undef))
theorem m9 (fn:Func)(tmps:Array Value):results fn tmps=(do
  let vs <- fn.results.mapM (lW tmps)
  pure (if h:vs.size=1 then vs[0] else .tuple vs)):=by
 have h:(fun (r:ResultVar)=>(match r with | .tmp t=>pure (tmps.getD t undef) | .cell p t=>do loadVar t (<- asAddr (tmps.getD p undef)):Sem Value))=lW tmps:=by
  funext r
  cases r <;> rfl
 rw [<- h]
 rfl
def Gc:List AV->AV
 |[x]=>x
 |xs=>.tup xs
theorem sv {P:Program}{T:TT}(hT:fW P T=true){N:Nat}{s:St}{W:World}{F:Nat->Prop}{μ:Mu}{a:Act}(hr:RS N W F μ s a):∀(rs:List ResultVar) (xs:List AV),fD (rs.map (yI T s))=some xs->∃vs:List Value,(rs.mapM (lW a.tmps)).run P W = .ok vs W/\vs.length=xs.length/\∀(j:Nat) (x:AV) (v:Value),xs[j]?=some x->vs[j]?=some v->Rel W F μ s.σ x v
 |[],xs,h=>by
  obtain rfl:=qB h
  exact⟨[],rfl,rfl,cP⟩
 |r::rs,xs,h=>by
  simp only [vE] at h
  cases hq:yI T s r with
  |none=>rw [hq] at h;cases h
  |some x=>
   rw [hq] at h
   simp only [fD] at h
   split at h
   case h_2=>cases h
   rename_i xs' hxs
   obtain rfl:=qB h
   obtain⟨vs,g1,g2,g3⟩:=sv hT hr rs xs' hxs
   have hone:∃v,(lW a.tmps r).run P W = .ok v W/\Rel W F μ s.σ x v:=by
    cases r with
    |tmp t=>
     obtain rfl:=qB hq
     exact⟨_,rfl,hr.ts t⟩
    |cell p ty=>
     simp only [yI] at hq
     split at hq
     case h_2=>cases hq
     rename_i ti cs l ht hca
     obtain⟨A,hA,v,hrun,hv⟩:=l7 hr.inv (aW hT ht) (hr.ts p) (n5 hca) hq
     refine⟨v,?_,hv⟩
     simp only [lW,kA2,hA]
     simpa [asAddr] using hrun
   obtain⟨v,hv1,hv2⟩:=hone
   refine⟨v::vs,?_,by simp [g2],aQ hv2 g3⟩
   rw [List.mapM_cons,kA2,hv1,kA1,kA2,g1,kA1]
   rfl
theorem xy {P:Program}{T:TT}(hT:fW P T=true){fn:Func}{s:St}{rs:List ResultVar}{xs:List AV}(hrs:fn.results.toList=rs)(h:fD (rs.map (yI T s))=some xs):m8 P fn s (Gc xs):=by
 subst hrs
 intro W F μ a hr
 obtain⟨vs,g1,g2,g3⟩:=sv hT hr _ _ h
 have hm:(fn.results.mapM (lW a.tmps)).run P W = .ok vs.toArray W:=by
  rw [Array.mapM_eq_mapM_toList]
  rw [map_eq_pure_bind,kA2,g1]
  rfl
 rw [m9,kA2,hm,kA1]
 match vs,xs,g2,g3 with
 |[v],[x],_,g3=>exact⟨v,rfl,g3 0 x v rfl rfl⟩
 |[],[],_,g3=>exact⟨_,rfl,.tup [] [] rfl g3⟩
 |v::u::vs,x::y::xs,g2,g3=>
  refine⟨.tuple (v::u::vs).toArray,?_,.tup (x::y::xs) (v::u::vs) g2 g3⟩
  simp
theorem Io {P:Program}{T:TT}(hT:fW P T=true){fn:Func}{s:St}{rs:List ResultVar}{xs:List AV}{y r:AV}{l:List Nat}(hrs:fn.results.toList=rs)(h:fD (rs.map (yI T s))=some xs)(hz:fzA s.σ 6 (Gc xs)=some (y,l))(hy:y=r):yx P fn r .ret s :=
 ⟨.inr rfl,_,l,xy hT hrs h,by rw [<- hy];exact lD 6 hz⟩
theorem dw {P:Program}{T:TT}(hT:fW P T=true){fn:Func}{s:St}{b1:List (Nat × SB)}{rs:List ResultVar}{xs:List AV}{r:AV}(hrs:fn.results.toList=rs)(h:fD (rs.map (yI T s))=some xs)(hx:Rm (b1.map fun p=>(p.1,p.1)) s.σ (lkB b1) (Gc xs) r)(hB:WkB s (lkB b1) b1):y9 P fn r b1 .ret s :=
 ⟨.inr rfl,_,xy hT hrs h,hx,hB⟩
theorem bT (id:Nat)(t:TypeId)(m:Nat){P:Program}{N:Nat}{o:Oper}{s:St}(ho:o.op = .assign (.const (.slice none 0 0))):ax P N o s ⟨.row id ((s.σ id).ep+1) 0 0,[(id,⟨(s.σ id).ep+1,some (.row t m [])⟩)],[]⟩:=by
 intro s' h1 h2 h3 W F μ a hr K Q hK
 have hid:s'.σ id=s.σ id:=h3 (id,⟨(s.σ id).ep+1,some (.row t m [])⟩) (by simp)
 have hrun:(execOp a.eval o).run P W = .ok (.value (.slice none 0 0)) W:=by
  simp only [execOp,ho,kA3]
  rfl
 obtain⟨hs,hi⟩:=cy hr.inv id none ((s.σ id).ep+1) (.row t m []) (Kp.refl _ W) (fun b c e=>by cases e) (.inl (by rw [hid];omega)) (fun _=>.inl ⟨rfl,rfl⟩)
 have hσ:up1 s'.σ id ⟨(s.σ id).ep+1,some (.row t m [])⟩ id=⟨(s.σ id).ep+1,some (.row t m [])⟩:=by rw [bi,if_pos rfl]
 have hμ:upm μ id none id=none:=if_pos rfl
 have hv:Rel W F (upm μ id none) (up1 s'.σ id ⟨(s.σ id).ep+1,some (.row t m [])⟩) (.row id ((s.σ id).ep+1) 0 0) (.slice none 0 0) :=
  .row _ _ _ _ _ (by rw [hσ];exact qJ _) rfl fun bd' m' l' h _=>⟨by omega,by rw [hμ]⟩
 unfold Oper.wp
 rw [hrun]
 exact hK W F _ _ (hr.put hs hi hv) hs
theorem bI {α:Type}(cF:α->List AV)(l:List α)(x:α)(hL:l.length<=100000000){P:Program}{N:Nat}{o:Oper}{s:St}{c:Call}{xo yo:Operand}{t e id id2 ep2:Nat}{ti ei:TI}(ho:o.op = .call c)(hc:c.callee = .builtin .append)(ha:c.args = #[xo,yo])(hat:c.argTypes = #[t,t])(ht:aB P t ti)(hk:ti.k = .slice e)(he:aB P e ei)(h0:(ei.n == 0)=false)(hsz:Nat.ble ei.sz 1000=true)
  (hx:∃ep,s.ev xo = .row id ep 0 (l.map cF).length/\s.σ id=⟨ep,some (.row e ei.n (l.map cF))⟩) (hy:s.ev yo = .row id2 ep2 0 1) (hid2:s.σ id2=⟨ep2,some (.row e ei.n [cF x])⟩) :
  ax P N o s ⟨.row id ((s.σ id).ep+1) 0 ((l++[x]).map cF).length,[(id,⟨(s.σ id).ep+1,some (.row e ei.n ((l++[x]).map cF))⟩)],[id2]⟩:=by
 have h2:=qW hsz
 refine n7 (els:=l.map cF) (els2:=[cF x]) ho hc ha hat ht hk he h0 (.inl hx) hy hid2 ?_ ?_ (by simp) rfl
 ·rw [qG]
  show (l.length+1)*ei.sz<=_
  exact vH (Nat.mul_le_mul (show l.length+1<=100000001 by omega) h2) (by decide)
 ·rw [qG]
  show l.length+1<=_
  omega
theorem jn {α:Type}(cF:α->List AV)(l l2:List α)(hL:l.length+l2.length<=100000000){P:Program}{N:Nat}{o:Oper}{s:St}{c:Call}{xo yo:Operand}{t e id:Nat}{ti ei:TI}(hcf:∀x,(cF x).length=ei.n)(ho:o.op = .call c)(hc:c.callee = .builtin .append)(ha:c.args = #[xo,yo])(hat:c.argTypes = #[t,t])(ht:aB P t ti)(hk:ti.k = .slice e)(he:aB P e ei)(h0:(ei.n == 0)=false)(hsz:Nat.ble ei.sz 1000=true)
  (hx:∃ep,s.ev xo = .row id ep 0 (l.map cF).length/\s.σ id=⟨ep,some (.row e ei.n (l.map cF))⟩) (hy:s.ev yo = .sl (l2.map cF)) :
  ax P N o s ⟨.row id ((s.σ id).ep+1) 0 ((l++l2).map cF).length,[(id,⟨(s.σ id).ep+1,some (.row e ei.n ((l++l2).map cF))⟩)],[]⟩:=by
 have h2:=qW hsz
 refine nv (els:=l.map cF) (els2:=l2.map cF) ho hc ha hat ht hk he h0 (.inl hx) hy (fun cs h=>by
  obtain⟨x,_,rfl⟩:=vI.1 h
  exact hcf x) ?_ ?_ (by simp) rfl
 ·rw [qG,qG]
  exact vH (Nat.mul_le_mul hL h2) (by decide)
 ·rw [qG,qG]
  omega
theorem bw {X Y:List (List AV)}(h:X=Y):AV.sl (List.take X.length (List.drop 0 X)) = .sl Y:=by
 rw [uR,uM,h]
section
variable {P:Program} {N:Nat} {o:Oper} {s:St}
theorem rE (n:Nat){t e id:Nat}{ti ei:TI}(ho:o.op = .makeSlice t (.const (.int .i64 (n:Int))) (.const (.int .i64 (n:Int))))(ht:aB P t ti)(hk:ti.k = .slice e)(he:aB P e ei)(hm:0<ei.n)(hs:ei.sz*n<=100000000)(hn:n<=100000000) :
  ax P N o s ⟨.row id ((s.σ id).ep+1) 0 n,[(id,⟨(s.σ id).ep+1,some (.row e ei.n (List.replicate n ei.z))⟩)],[]⟩:=by
 obtain⟨inf,d,z,q1,q2,q3,q4,q5,q6,q7⟩:=he.h
 refine f9 [] fun s' W F μ a g1 g2 hid hs'=>?_
 have hzl:=he.zl
 have hb:(inf.bytes:Int)*(n:Int)<=281474976710656:=by
  have:((ei.sz*n:Nat):Int)<=100000000:=by omega
  rw [Int.natCast_mul] at this
  rw [q4]
  omega
 have hrun:=run_make (P:=P) W t e inf z (ht.slice hk) q1 q6 .i64 .i64 (n:Int) (n:Int) (by omega) (by omega) hb (by omega)
 rw [vQ,q3] at hrun
 have hzs:=fun W'=>da (W:=W') (F:=F) q7
 have hsz:z.cells.size=ei.n:=by rw [<- qL,(hzs W).1,hzl]
 have hmc:(madeCells z.cells (n*ei.n)).size=n*ei.n:=size_madeCells _ _
 have hget:∀k j,k<n->j<ei.n->(madeCells z.cells (n*ei.n))[k*ei.n+j]?=z.cells.toList[j]?:=fun k j hk hj=>by
  have hlt:k*ei.n+j<n*ei.n:=by
   have:(k+1)*ei.n<=n*ei.n:=Nat.mul_le_mul_right _ hk
   rw [Nat.add_mul,Nat.one_mul] at this
   omega
  have hmod:(k*ei.n+j) % z.cells.size=j:=by rw [hsz,Nat.mul_comm,Nat.mul_add_mod,Nat.mod_eq_of_lt hj]
  simp only [madeCells,Array.getElem?_map,Array.getElem?_range,hlt,if_true,Option.map_some,hmod]
  rw [vO,getElem!_pos _ _ (by omega),uL (by omega)]
 refine⟨.slice (some ⟨W.heap.size,0,none⟩) n n,(madeCells z.cells (n*ei.n)).toList,e,n,?_,fun μ' σ' hst hσ hμ=>⟨.inr ⟨W.heap.size,n,madeCells z.cells (n*ei.n),rfl,?_,by simp,?_,hmc,?_,?_⟩,.row id _ 0 n _ (by rw [hσ];exact qJ _) rfl fun bd' m' l' hbd hL=>?_⟩⟩
 ·simp only [execOp,ho,Act.eval,kA2,hrun,kA1,kA3,Array.toArray_toList]
 ·rw [Array.toArray_toList];exact kA5 W _
 ·show n<=maxLen
  exact vH hn (by decide)
 ·intro k cs hk
  rw [uW] at hk
  split at hk
  ·rw [<- qB hk,hzl]
  ·cases hk
 ·intro k cs j x hk hx
  rw [uW] at hk
  split at hk
  ·rename_i hkn
   rw [<- qB hk] at hx
   have hj:j<ei.n:=by rw [<- hzl];exact (qD.1 hx).1
   obtain⟨v,hv⟩:∃v,z.cells.toList[j]?=some v:=⟨_,qA (by rw [qL,hsz];exact hj)⟩
   have:=(hzs (W.alloc (.cells (madeCells z.cells (n*ei.n)).toList.toArray e))).2 j x v hx hv
   exact⟨this.2,v,by rw [hget k j hkn hj,hv],this.1⟩
  ·cases hk
 ·rw [hσ] at hbd
  obtain rfl:aE.row e ei.n (List.replicate n ei.z)=bd':=by simpa using hbd
  obtain⟨rfl,rfl⟩:ei.n=m'/\(List.replicate n ei.z).length=l':=by simpa only [aE.rowL,qU,vC] using hL
  exact⟨by simp,by rw [hμ];simp⟩
def bA (f:Nat->Bool):List AV:=(List.range 128).map fun i=>.b (f i)
theorem cq (f:Nat->Bool):(bA f).length=128:=by simp [bA]
theorem qj (f:Nat->Bool)(k:Nat)(hk:k<128):(bA f)[k]?=some (.b (f k)):=by
 rw [bA,qF,List.getElem?_range hk];rfl
theorem Ba {f g:Nat->Bool}(h:∀i<128,f i=g i):bA f=bA g:=by
 rw [bA,bA]
 exact List.map_congr_left fun i hi=>by rw [h i (uV.1 hi)]
theorem BT (f:Nat->Bool):(bA f).all AV.one=true:=by
 rw [qV]
 intro x hx
 obtain⟨i,_,rfl⟩:=vI.1 hx
 rfl
def upB (f:Nat->Bool)(k:Nat)(v:Bool):Nat->Bool:=fun i=>if i=k then v else f i
theorem xu:∀(cs:List AV) (k:Nat) (x:AV),ovw cs k [x]=cs.set k x
 |[],k,x=>rfl
 |c::cs,0,x=>by
  show x::ovw cs 0 []=_
  cases cs <;> rfl
 |c::cs,k+1,x=>by
  show c::ovw cs k [x]=_
  rw [xu cs k x];rfl
theorem Fo (f:Nat->Bool)(k:Nat)(v:Bool)(hk:k<128):ovw (bA f) k [.b v]=bA (upB f k v):=by
 rw [xu]
 apply List.ext_getElem?
 intro i
 rw [List.getElem?_set]
 by_cases e:k=i
 ·subst e
  rw [if_pos rfl,if_pos (by rw [cq];exact hk),qj _ _ hk,upB,if_pos rfl]
 ·rw [if_neg e]
  by_cases h:i<128
  ·rw [qj _ _ h,qj _ _ h,upB,if_neg (fun h=>e h.symm)]
  ·rw [vX (by rw [cq];omega),vX (by rw [cq];omega)]
theorem aN (k:Nat){t id ep:Nat}{ti ei:TI}{e:Nat}{x i:Operand}{ty:Nat}{f:Nat->Bool}{kd:IntKind}(hk:k<128)(ho:o.op = .indexAddr t x i)(ht:aB P t ti)(hti:ti.k = .arr 128 e)(he:aB P e ei)(hn:ei.n=1)(hi:s.ev i = .i kd (k:Int))(hx:s.ev x = .own id ep 0)(hid:s.σ id=⟨ep,some (.box ty (bA f))⟩) :
  ax P N o s ⟨.own id ep k,[],[id]⟩:=by
 have h:=pC (N:=N) (r:=.own id ep k) ho ht hti he hi hk (by rw [hx];exact .own hid) (by rw [hx,hn];simp [ue])
 exact h
theorem kB (k:Nat){t id ep:Nat}{ti:TI}{p:Operand}{ty:Nat}{f:Nat->Bool}(hk:k<128)(ho:o.op = .load t p)(ht:aB P t ti)(hti:ti.k.ag=false)(hp:s.ev p = .own id ep k)(hid:s.σ id=⟨ep,some (.box ty (bA f))⟩) :
  ax P N o s ⟨.b (f k),[],[id]⟩:=by
 refine gI ho ht (by rw [hp];exact .own hid) ?_
 rw [ldA,hti,cond_false,List.head?_drop]
 exact qj f k hk
theorem fg (k:Nat){t id ep:Nat}{ti:TI}{p x:Operand}{ty:Nat}{f:Nat->Bool}{v:Bool}(hk:k<128)(ho:o.op = .store t p x)(ht:aB P t ti)(hn:ti.n=1)(hp:s.ev p = .own id ep k)(hid:s.σ id=⟨ep,some (.box ty (bA f))⟩)(hx:s.ev x = .b v) :
  ax P N o s ⟨.tup [],[(id,⟨ep,some (.box ty (bA (upB f k v)))⟩)],[]⟩:=by
 rw [<- Fo f k v hk]
 exact nl ho ht hp hid (by rw [hx];rfl) rfl (by rw [hn];rfl) (by rw [hn,cq];omega)
theorem lj {t id ep:Nat}{ti:TI}{p:Operand}{ty:Nat}{f:Nat->Bool}(ho:o.op = .load t p)(ht:aB P t ti)(hti:ti.k.ag=true)(hn:ti.n=128)(hp:s.ev p = .own id ep 0)(hid:s.σ id=⟨ep,some (.box ty (bA f))⟩) :
  ax P N o s ⟨.agg (bA f),[],[id]⟩:=by
 refine gI ho ht (by rw [hp];exact .own hid) ?_
 rw [ldA,hti,cond_true,hn,uR,cq]
 show some (AV.agg ((bA f).take 128))=_
 rw [vL (by rw [cq];exact qJ _)]
theorem cJ {t id ep:Nat}{ti:TI}{p x:Operand}{ty:Nat}{f:Nat->Bool}{cs:List AV}(hl:cs.length=128)(ho:o.op = .store t p x)(ht:aB P t ti)(hn:ti.n=128)(hp:s.ev p = .own id ep 0)(hid:s.σ id=⟨ep,some (.box ty cs)⟩)(hx:s.ev x = .agg (bA f)) :
  ax P N o s ⟨.tup [],[(id,⟨ep,some (.box ty (bA f))⟩)],[]⟩:=by
 have e:ovw cs 0 (bA f)=bA f:=by
  apply List.ext_getElem?
  intro i
  rw [gS _ _ _ _ (by rw [cq];omega),cq]
  by_cases h:i<128
  ·rw [if_pos (by omega),Nat.sub_zero]
  ·rw [if_neg (by omega),vX (by omega),vX (by rw [cq];omega)]
 have h:=nl (N:=N) ho ht hp hid (by rw [hx];rfl) (BT f) (by rw [hn,cq]) (by rw [hn];omega)
 rw [e] at h
 exact h
theorem dn {t id:Nat}{ti:TI}(ho:o.op = .alloc t)(ht:aB P t ti)(hz:ti.z=bA fun _=>false):ax P N o s ⟨.own id ((s.σ id).ep+1) 0,[(id,⟨(s.σ id).ep+1,some (.box t (bA fun _=>false))⟩)],[]⟩:=by
 rw [<- hz]
 exact sA ho ht
theorem yS {t e:Nat}{ti ei:TI}(ho:o.op = .build t #[])(ht:aB P t ti)(hk:ti.k = .arr 128 e)(he:aB P e ei)(hz:ti.z=bA fun _=>false):ax P N o s ⟨.agg (bA fun _=>false),[],[]⟩:=by
 refine az [] _ fun s' W F μ a g1 g2 hs=>?_
 obtain⟨z,hz1,hz2⟩:=ht.zero W
 have hz3:=da (W:=W) (F:=F) hz2
 rw [hz] at hz3
 refine⟨.agg z.cells.toList.toArray,?_,.agg _ z.cells.toList hz3.1 (fun j x hx=>?_) (fun j x v hx hv=>.pure (hz3.2 j x v hx hv).1)⟩
 ·simp only [execOp,ho,Instr.build,List.map_toArray,List.map_nil,kA2,hz1,kA1,kA9 (ht.array hk),he.size,Instr.fill,kA3,Array.toArray_toList]
 ·obtain⟨v,hv⟩:∃v,z.cells.toList[j]?=some v:=⟨_,qA (by rw [hz3.1];exact (qD.1 hx).1)⟩
  exact (hz3.2 j x v hx hv).2
theorem FE {σ:Sto}{k:Nat}(f:Nat->Bool)(l:List Nat):fzL σ (k+1) (l.map fun i=>.b (f i))=some (l.map fun i=>.b (f i),[]):=by
 induction l with
 |nil=>rfl
 |cons i l ih=>
  have ih':(l.map fun i=>AV.b (f i)).foldr (fun c acc=>match fzA σ (k+1) c,acc with|some (y,l),some (ys,l')=>some (y::ys,l++l')|_,_=>none) (some ([],[]))=some (l.map fun i=>.b (f i),[]):=ih
  show (match fzA σ (k+1) (.b (f i)),(l.map fun i=>AV.b (f i)).foldr (fun c acc=>match fzA σ (k+1) c,acc with|some (y,l),some (ys,l')=>some (y::ys,l++l')|_,_=>none) (some ([],[])) with|some (y,l),some (ys,l')=>some (y::ys,l++l')|_,_=>none)=_
  rw [ih']
  rfl
theorem Ee {σ:Sto}{k:Nat}{cs cs':List AV}{l:List Nat}(h:fzL σ k cs=some (cs',l)):fzA σ (k+1) (.agg cs)=some (.agg cs',l):=by
 show (match fzL σ k cs with|some (cs',l)=>some (AV.agg cs',l)|none=>none)=_
 rw [h]
theorem E7 {σ:Sto}{k:Nat}(f:Nat->Bool):fzA σ (k+2) (.agg (bA f))=some (.agg (bA f),[]):=Ee (FE f _)
theorem gy (f:Nat->Bool):(AV.agg (bA f)).flat=true:=by
 show (bA f).all AV.flat1=true
 rw [qV]
 intro x hx
 obtain⟨i,_,rfl⟩:=vI.1 hx
 rfl
theorem G2 {fn:Func}{s:St}{f:Nat->Bool}{a ty id ep t:Nat}{ti:TI}{r:AV}(h:fn.results = #[.cell a ty])(ht:aB P ty ti)(hag:ti.k.ag=true)(hn:ti.n=128)(ha:s.ts a = .own id ep 0)(hid:s.σ id=⟨ep,some (.box t (bA f))⟩)(hr:.agg (bA f)=r):yx P fn r .ret s:=by
  refine⟨.inr rfl,.agg (bA f),[],?_,by rw [<- hr];exact lD 2 (E7 f)⟩
  intro W F μ ac hrs
  obtain⟨A,hA,v,hrun,hv⟩:=l7 (r:=.agg (bA f)) hrs.inv ht (hrs.ts a) (by rw [ha];exact .own hid) (by
    rw [ldA,hag,cond_true,hn,uR,cq]
    show some (AV.agg ((bA f).take 128))=_
    rw [vL (by rw [cq];exact qJ _)])
  refine⟨v,?_,hv⟩
  have e : results fn ac.tmps = (do
      let v <- lW ac.tmps (.cell a ty)
      pure v):=by
    rw [m9,h]
    simp
  rw [e]
  simp only [lW,kA2,hA]
  simpa [asAddr] using hrun
def yA (g:Nat->UInt8):List (List AV):=(List.range 128).map fun i=>[.y (g i)]
theorem qt (g:Nat->UInt8):(yA g).length=128:=by simp [yA]
theorem rm (g:Nat->UInt8)(k:Nat)(hk:k<128):(yA g)[k]?=some [.y (g k)]:=by
 rw [yA,qF,List.getElem?_range hk];rfl
def upY (g:Nat->UInt8)(k:Nat)(v:UInt8):Nat->UInt8:=fun i=>if i=k then v else g i
theorem FJ (g:Nat->UInt8)(k:Nat)(v:UInt8)(hk:k<128):(yA g).set k [.y v]=yA (upY g k v):=by
 apply List.ext_getElem?
 intro i
 rw [List.getElem?_set]
 by_cases e:k=i
 ·subst e
  rw [if_pos rfl,if_pos (by rw [qt];exact hk),rm _ _ hk,upY,if_pos rfl]
 ·rw [if_neg e]
  by_cases h:i<128
  ·rw [rm _ _ h,rm _ _ h,upY,if_neg (fun h=>e h.symm)]
  ·rw [vX (by rw [qt];omega),vX (by rw [qt];omega)]
theorem AP {t e id:Nat}{ti ei:TI}(ho:o.op = .makeSlice t (.const (.int .i64 128)) (.const (.int .i64 128)))(ht:aB P t ti)(hk:ti.k = .slice e)(he:aB P e ei)(hz:ei.z=[.y 0])(hn:ei.n=1)(hs:ei.sz=1) :
  ax P N o s ⟨.row id ((s.σ id).ep+1) 0 128,[(id,⟨(s.σ id).ep+1,some (.row e 1 (yA fun _=>0))⟩)],[]⟩:=by
 have h:=rE (N:=N) (s:=s) (id:=id) 128 ho ht hk he (by rw [hn];decide) (by rw [hs];decide) (by decide)
 have e0:List.replicate 128 ei.z=yA fun _=>0:=by rw [hz];rfl
 rw [e0,hn] at h
 exact h
theorem np (k:Nat){t e id ep ty:Nat}{ti ei:TI}{x i:Operand}{kd:IntKind}{g:Nat->UInt8}(hk:k<128)(ho:o.op = .indexAddr t x i)(ht:aB P t ti)(hti:ti.k = .slice e)(he:aB P e ei)(hn:ei.n=1)(hi:s.ev i = .i kd (k:Int))(hx:s.ev x = .row id ep 0 128)(hid:s.σ id=⟨ep,some (.row ty 1 (yA g))⟩) :
  ax P N o s ⟨.el id ep k 0,[],[id]⟩:=by
 have h:=oK (N:=N) ho ht hti he hx hid hi hk hn.symm
 rw [vN] at h
 exact h
theorem lc (k:Nat){t id ep ty:Nat}{ti:TI}{p x:Operand}{g:Nat->UInt8}{v:UInt8}(hk:k<128)(ho:o.op = .store t p x)(ht:aB P t ti)(hn:ti.n=1)(hp:s.ev p = .el id ep k 0)(hid:s.σ id=⟨ep,some (.row ty 1 (yA g))⟩)(hx:s.ev x = .y v) :
  ax P N o s ⟨.tup [],[(id,⟨ep,some (.row ty 1 (yA (upY g k v)))⟩)],[]⟩:=by
 rw [<- FJ g k v hk]
 exact lr ho ht hp hid (rm g k hk) (congrArg AV.cells hx) rfl rfl (by rw [hn];try rfl) (by rw [hn];exact qJ 1)
theorem EA {σ:Sto}{x y:AV}{l:List Nat}(h:fzA σ 6 x=some (y,l)):fzL σ 6 [x]=some ([y],l):=by
 show (match fzA σ 6 x,(some ([],[]):Option (List AV × List Nat)) with|some (y,l),some (ys,l')=>some (y::ys,l++l')|_,_=>none)=_
 rw [h]
 simp
theorem sT {σ:Sto}(f:Nat->Bool):fzL σ 6 [.agg (bA f)]=some ([.agg (bA f)],[]):=EA (E7 f)
end
section
variable {P:Program} {N:Nat} {o:Oper} {s:St}
theorem jv (n:Nat)(hn0:0 < n)(hn:n <= 100000000){c:Call}{x y:Operand}{t u e id:Nat}{ti ui ei:TI}{k:IntKind}(ho:o.op = .call c)(hc:c.callee = .builtin .append)(ha:c.args = #[x,y])(hat:c.argTypes = #[t,u])(ht:aB P t ti)(hk:ti.k = .slice e)(hu:aB P u ui)(hku:ui.k = .int k)(he:aB P e ei)(hm:0 < ei.n)(hs:ei.sz <= 1000)
  (hx:s.ev x = .raw (.slice none 0 0)) (hy:s.ev y = .i .i64 (n:Nat)) :
  ax P N o s ⟨.row id ((s.σ id).ep+1) 0 n,[(id,⟨(s.σ id).ep+1,some (.row e ei.n (List.replicate n ei.z))⟩)],[]⟩:=by
 intro s' g1 g2 g3 W F μ a hr K Q hK
 have hid:s'.σ id=s.σ id:=g3 (id,⟨(s.σ id).ep+1,some (.row e ei.n (List.replicate n ei.z))⟩) (by simp)
 have opers:o.op.operands.toList=[x,y]:=by rw [ho];simp [Op.operands,Call.operands,hc,ha]
 have ex:=hr.ev x
 rw [g1 x (by rw [opers];simp),hx] at ex
 have ey:=hr.ev y
 rw [g1 y (by rw [opers];simp),hy] at ey
 obtain⟨inf,d,z,q1,q2,q3,q4,q5,q6,q7⟩:=he.h
 have hzl:=he.zl
 have hzs:=fun W'=>da (W:=W') (F:=F) q7
 have hsz:z.cells.size=ei.n:=by rw [<- qL,(hzs W).1,hzl]
 have hb:n*inf.bytes<=100000000000:=by
  rw [q4]
  exact vH (Nat.mul_le_mul hn hs) (by decide)
 have hrun:=Lib.run_append_grow_zeros W t u o.type e inf z .i64 k (ht.slice hk) (hu.int hku) q1 q6 none 0 0 [] (run_firstCells_none W.drew inf.size 0 0 0) n hn0 (by rw [q3];exact hm) (by omega) (by omega) (by omega) (by
  rw [vN]
  exact growslice_fits hn0 (by omega))
 rw [vN] at hrun
 have hG:=grownCap_ge W n 0 e
 have hG2:=grownCap_le_maxLen W n 0 e (vH hn (by decide))
 generalize grownCap W n 0 e=G at hrun hG hG2
 generalize hcur:([]:List Value).toArray++Builtin.zeroCells z.cells n++Builtin.zeroCells z.cells (G-n)=cur at hrun
 have hzc:∀m,(Builtin.zeroCells z.cells m).size=m*ei.n:=fun m=>by simp [Builtin.zeroCells,hsz]
 have hcs:cur.size=G*ei.n:=by
  rw [<- hcur]
  simp only [uH,List.length_nil,Array.size_append,hzc,vN]
  rw [<- Nat.add_mul]
  congr 1
  omega
 have hget:∀i j,i<n->j<ei.n->cur[i*ei.n+j]?=z.cells.toList[j]?:=fun i j hi hj=>by
  have hlt:i*ei.n+j<n*ei.n:=by
   have:(i+1)*ei.n<=n*ei.n:=Nat.mul_le_mul_right _ hi
   rw [Nat.add_mul,Nat.one_mul] at this
   omega
  have hmod:(i*ei.n+j) % z.cells.size=j:=by rw [hsz,Nat.mul_comm,Nat.mul_add_mod,Nat.mod_eq_of_lt hj]
  rw [<- hcur,Array.getElem?_append_left (by simp only [uH,List.length_nil,Array.size_append,hzc,vN];exact hlt),Array.getElem?_append_right (by simp)]
  simp only [uH,List.length_nil,Nat.sub_zero,Builtin.zeroCells,hsz,Array.getElem?_map,Array.getElem?_range,hlt,if_true,Option.map_some]
  rw [hsz] at hmod
  rw [hmod,vO,getElem!_pos _ _ (by omega),uL (by omega)]
 have hkp:Kp (fun b=>(s'.σ id).body.isSome=true/\∃c,μ id=some (b,c)) W (W.drew.alloc (.cells cur e)):=((Kp.refl _ W).drew).alloc _
 have hsize:W.drew.heap.size=W.heap.size:=rfl
 have hheap:(W.drew.alloc (.cells cur e)).heap[W.heap.size]?=some (.cells cur e (0,0)):=kA5 W.drew _
 obtain⟨hst,hi⟩ := cy hr.inv id (some (W.heap.size,G)) ((s.σ id).ep + 1) (.row e ei.n (List.replicate n ei.z)) hkp (fun b c' e'=>by
   have e':W.heap.size=b:=by simp only [qU,vC] at e';exact e'.1
   subst e'
   exact⟨by simp,.inl (qJ _)⟩) (.inl (by rw [hid];omega)) (fun hst=>by
   refine .inr ⟨W.heap.size,G,cur,rfl,hheap,by simpa using hG,hG2,hcs,fun i cs hi=>?_,fun i cs j x hi hx=>?_⟩
   ·rw [uW] at hi
    split at hi
    ·rw [<- qB hi,hzl]
    ·cases hi
   ·rw [uW] at hi
    split at hi
    ·rename_i hin
     rw [<- qB hi] at hx
     have hj:j<ei.n:=by rw [<- hzl];exact (qD.1 hx).1
     obtain⟨v,hv⟩:∃v,z.cells.toList[j]?=some v:=⟨_,qA (by rw [qL,hsz];exact hj)⟩
     have:=(hzs (W.drew.alloc (.cells cur e))).2 j x v hx hv
     exact⟨this.2,v,by rw [hget i j hin hj,hv],this.1⟩
    ·cases hi)
 unfold Oper.wp
 have hrun':(execOp a.eval o).run P W = .ok (.value (.slice (some ⟨W.heap.size,0,none⟩) n G)) (W.drew.alloc (.cells cur e)):=by
  simp only [execOp,ho,resolve,hc,ha,hat,List.map_toArray,vE,List.map_nil,kA2,kA3,kA1,invoke,builtin,ex.raw',ey.i',hrun]
 rw [hrun']
 refine hK _ F _ _ (hr.put hst hi (.row id _ 0 _ _ ?_ rfl fun bd' m' l' hbd hL=>?_)) hst
 ·rw [bi,if_pos rfl]
  exact qJ _
 ·rw [bi,if_pos rfl] at hbd
  obtain rfl:aE.row e ei.n (List.replicate n ei.z)=bd':=by simpa using hbd
  obtain⟨rfl,rfl⟩:ei.n=m'/\(List.replicate n ei.z).length=l':=by simpa only [aE.rowL,qU,vC] using hL
  rw [dE,if_pos rfl]
  exact⟨by simp,by simp⟩
end
theorem aa.raw0 {P:Program}{f:FuncId}{r:AV}(h:∀A c,aa P f [.raw (.slice A 0 c)] r):aa P f [.sl []] r:=by
 refine⟨(h none 0).fn,fun W F vs hl hv hF hL=>?_⟩
 match vs,hl with
 |[v],_=>
  cases (hv 0 _ _ rfl rfl) with
  |sl _ A c=>
   exact (h A c).calls W F _ rfl (fun j x v hx hv=>by
    match j,hx,hv with
    |0,hx,hv=>
     obtain rfl:=qB hx
     obtain rfl:=qB hv
     exact .raw _) hF hL
theorem RG.ownV {P:Program}{N:Nat}{ops:Array Oper}{rest:List Oper}{s:St}{K:St->List Eff->Prop}{o:Oper}{c:Call}{f:FuncId}{xs zs zs':List AV}{r r':AV}{π π':List (Nat × Nat)}{ks:List Nat}{B0 B0' B1 up0:List (Nat × SB)}{d:Option Nat}
  (h:∀q,aj P f zs (gl q ks B0) r (gl q ks B1)) (hg:gd ops s o=some true) (ho:o.op = .call c) (ha:fA s c=some (f,xs))
  (hz:fD (xs.map (rmA π s.σ (fun _=>0)))=some zs') (hz':zs'=zs) (hb:rmS π s.σ (fun _=>0) π=some B0') (hb':B0'=B0)
  (hu:rmS π' (lkB B1) (ep2 s.σ π π' ks B1) π'=some up0) (hr':rmA π' (lkB B1) (ep2 s.σ π π' ks B1) r=some r') (hk:okO s.σ π π' B0=true) (hd:o.dst=d)
  (hr:RG P N ops rest ⟨eH N s.ts d r',ups s.σ (up0++gone s.σ π' π)⟩ fun s' Es=>K s' (⟨r',up0++gone s.σ π' π,[]⟩::Es)):RG P N ops (o::rest) s K:=by
 subst hz' hb' hd
 unfold fA at ha
 split at ha
 case h_2=>cases ha
 rename_i fop hc
 split at ha
 case h_2=>cases ha
 rename_i f' first caps hf
 simp only [qU,vC] at ha
 obtain⟨rfl,rfl⟩:=ha
 simp only [okO,qQ] at hk
 obtain⟨⟨⟨⟨⟨⟨k1,k2⟩,k3⟩,k4⟩,k5⟩,k6⟩,k7⟩:=hk
 have n1:=bq k1
 have n3:=bq k3
 obtain⟨u1,u2⟩:=iF hu
 obtain⟨b1,b2⟩:=iF hb
 have hkeys:((up0++gone s.σ π' π).map (·.1)).Nodup:=by rw [uB,u1];exact bq k7
 have hat:∀q∈up0++gone s.σ π' π,ups s.σ (up0++gone s.σ π' π) q.1=q.2:=fun q hq=>ql hkeys hq
 have hS0:RmS π s.σ (lkB B0') (fun _=>0):=i8 hb (fun q hq=>rk (by rw [b1];exact n1) hq) n1
 have hS1:RmS π' (lkB B1) (ups s.σ (up0++gone s.σ π' π)) (ep2 s.σ π π' ks B1):=i8 hu (fun q hq=>hat q (vS _ hq)) n3
 obtain⟨z1,z2⟩:=eK hz
 have body2:∀id∈(up0++gone s.σ π' π).map (·.1),∀bd2,(ups s.σ (up0++gone s.σ π' π) id).body=some bd2->∃p∈π',p.2=id/\ups s.σ (up0++gone s.σ π' π) id=⟨ep2 s.σ π π' ks B1 id,some bd2⟩/\∃bd,(lkB B1 p.1).body=some bd/\rmB π' (lkB B1) (ep2 s.σ π π' ks B1) bd=some bd2:=fun id hid bd2 hb2=>by
  obtain⟨q,hq,rfl⟩:=vI.1 hid
  rw [hat q hq] at hb2 ⊢
  rcases vB.1 hq with h1|h1
  ·obtain⟨p,hp,e1,bd,bd',e2,e3,e4⟩:=u2 q h1
   rw [e4] at hb2
   obtain rfl:=qB hb2
   exact⟨p,hp,e1,by rw [e4,e1],bd,e2,e3⟩
  ·rw [(eO h1).1] at hb2
   cases hb2
 refine RG.opB hg (xi (h fun _=>none).fn ho hc hf) (ip (π:=π) (π':=π') (ks:=ks) ho hc hf h z1 (fun j x z hx hz=>kV hS0 (z2 j x z hx hz)) n1 (bq k2) (fun p hp=>qW (qV.1 k5 p hp)) (fun k bd' hbd=>?_) (fun p hp=>?_) n3
  (fun p hp q hq e=>?_) (fun p hp=>qW (qV.1 k6 p hp)) (fun p hp=>?_) (fun id hid bd2 hb2=>?_) (fun id hid=>?_) (fun id hid he bd2 hb2=>?_) (kV hS1 hr')) hr
 ·obtain⟨q,hq,e1,e2⟩:=iB hbd
  obtain⟨p,hp,e3,bd,bd1,e4,e5,e6⟩:=b2 q hq
  rw [<- e2,e6] at hbd
  obtain rfl:=qB hbd
  exact⟨p,hp,e3.trans e1,bd,e4,gL hS0 e5⟩
 ·rw [uB,vB,u1]
  exact (iI hp).symm
 ·have:∀(l:List (Nat × Nat)),(l.map (·.1)).Nodup->p∈l->q∈l->p=q:=by
   intro l
   induction l with
   |nil=>intro _ h;cases h
   |cons a l ih=>
    intro hl h5 h6
    rw [vE,vV] at hl
    rcases vA.1 h5 with g5|g5 <;> rcases vA.1 h6 with g6|g6
    ·rw [g5,g6]
    ·exact (hl.1 (by rw [<- g5,e];exact qX (f:=(·.1)) g6)).elim
    ·exact (hl.1 (by rw [<- g6,<- e];exact qX (f:=(·.1)) g5)).elim
    ·exact ih hl.2 g5 g6
  exact this π' (bq k4) hp hq
 ·rw [uB,vB,u1]
  exact .inl (qX (f:=(·.2)) hp)
 ·obtain⟨p,hp,e1,_,bd,e2,e3⟩:=body2 id hid bd2 hb2
  exact⟨p,hp,e1,bd,e2,gL hS1 e3⟩
 ·obtain⟨q,hq,rfl⟩:=vI.1 hid
  rw [hat q hq]
  rcases vB.1 hq with h1|h1
  ·obtain⟨p,hp,e1,bd,bd',e2,e3,e4⟩:=u2 q h1
   rw [e4,e1]
   unfold ep2
   cases nW s.σ π π' ks B1 q.1
   ·exact Nat.le_succ _
   ·exact qJ _
  ·rw [(eO h1).1];exact qJ _
 ·obtain⟨p,hp,e1,e0,bd,e2,e3⟩:=body2 id hid bd2 hb2
  rw [e0] at he
  have hkp:nW s.σ π π' ks B1 id=true:=by
   replace he:ep2 s.σ π π' ks B1 id=(s.σ id).ep:=he
   unfold ep2 at he
   cases hk:nW s.σ π π' ks B1 id
   ·rw [hk,cond_false] at he;omega
   ·rfl
  obtain⟨k,hk,m1,m2,bd0,bd1,g1,g2,g3⟩:=pT hkp
  have hbd:rmB π' (lkB B1) (ep2 s.σ π π' ks B1) bd1=some bd2:=by
   have:p=(k,id):=by
    have:∀(l:List (Nat × Nat)),(l.map (·.2)).Nodup->p∈l->(k,id)∈l->p=(k,id):=by
     intro l
     induction l with
     |nil=>intro _ h;cases h
     |cons a l ih=>
      intro hl h5 h6
      rw [vE,vV] at hl
      rcases vA.1 h5 with g5|g5 <;> rcases vA.1 h6 with g6|g6
      ·rw [g5,g6]
      ·exact (hl.1 (by rw [<- g5,e1];exact qX (f:=(·.2)) g6)).elim
      ·exact (hl.1 (by rw [<- g6];show id∈_;rw [<- e1];exact qX (f:=(·.2)) g5)).elim
      ·exact ih hl.2 g5 g6
    exact this π' n3 hp m2
   rw [this] at e2
   have:bd=bd1:=qB (e2.symm.trans (by show (lkB B1 k).body=_;rw [g1]))
   rw [<- this];exact e3
  refine⟨k,hk,m1,m2,⟨bd1,g1⟩,bd0,g2,?_⟩
  rw [<- g3]
  have hR:=gL hS1 hbd
  cases hR with
  |box hl _ _=>show (true,_,_,0)=(true,_,_,0);rw [hl]
  |row=>rfl
  |obj=>rfl
theorem RG.ownNV {P:Program}{N:Nat}{ops:Array Oper}{rest:List Oper}{ts:Nat->AV}{σ:Sto}{K:St->List Eff->Prop}{o:Oper}{c:Call}{f:FuncId}{xs zs zs':List AV}{r r':AV}(π π':List (Nat × Nat)){ks:List Nat}{B0 B0' B1 up:List (Nat × SB)}{d:Option Nat}
  (h:∀q,aj P f zs (gl q ks B0) r (gl q ks B1)) (hg:gd ops ⟨ts,σ⟩ o=some true) (ho:o.op = .call c) (ha:fA ⟨ts,σ⟩ c=some (f,xs))
  (hz:fD (xs.map (rmA π σ (fun _=>0)))=some zs') (hz':zs'=zs) (hb:rmS π σ (fun _=>0) π=some B0') (hb':B0'=B0)
  (hu:Eb σ π π' ks B1 r=some (r',up)) (hk:okO σ π π' B0=true) (hd:o.dst=d)
  (hr:RG P N ops rest ⟨eH N ts d r',ups σ up⟩ fun s' Es=>K s' (⟨r',up,[]⟩::Es)):RG P N ops (o::rest) ⟨ts,σ⟩ K:=by
 unfold Eb at hu
 split at hu
 ·rename_i up0 r1 e1 e2
  simp only [kS,co,qU,vC] at hu
  obtain⟨rfl,rfl⟩:=hu
  exact RG.ownV h hg ho ha hz hz' hb hb' e1 e2 hk hd hr
 ·cases hu
structure xD (W:World)(F:Nat->Prop)(μ:Mu)(σ:Sto)(els:List AV)(cells:List Value):Prop where
 n:cells.length=els.length
 r:∀(k:Nat) (x:AV),els[k]?=some x->x.one=true/\∃u,cells[k]?=some u/\Rel W F μ σ x u
theorem xD.one {W:World}{F:Nat->Prop}{μ:Mu}{σ:Sto}{els:List AV}{cells:List Value}(h:xD W F μ σ els cells){k:Nat}{u:Value}(hu:cells[k]?=some u):u.oneCell'=true:=by
 have hk:k<els.length:=by rw [<- h.n];exact (qD.1 hu).1
 obtain⟨r1,u',r2,r3⟩:=h.r k _ (qA hk)
 obtain rfl:=qB (hu.symm.trans r2)
 exact r3.one r1
theorem xD.body {W:World}{F:Nat->Prop}{μ:Mu}{σ:Sto}{t b cap:Nat}{els:List AV}{cells:List Value}{cur:Array Value}(h:xD W F μ σ els cells)(hh:W.heap[b]?=some (.cells cur t (0,0)))(h1:els.length<=cap)(h2:cap<=maxLen)(h3:cur.size=cap)
  (h4:cur.toList.take els.length=cells):aM W F μ σ (some (b,cap)) (.nest t els):=by
 refine .inr ⟨b,cap,cur,rfl,hh,h1,h2,h3,fun k x hk=>?_⟩
 obtain⟨r1,u,r2,r3⟩:=h.r k x hk
 refine⟨r1,u,?_,r3⟩
 rw [<- h4,uF] at r2
 split at r2
 ·simpa using r2
 ·cases r2
def Rt (N:Nat)(s:St){ι:Type}(st:ι->St)(J:ι->Prop):Prop :=
 ∀W F μ a,RS N W F μ s a->∃F' μ' i,J i/\RS N W F' μ' (st i) a/\Stq W F μ s.σ W F' μ' (st i).σ
section
variable {P:Program} {N:Nat} {Q:Exit -> St -> Prop} {s:St} {c:Code} {ι:Type}
theorem Rt.trans {κ:Type}{s1:κ->St}{K:κ->Prop}{st:ι->St}{J:ι->Prop}(h:Rt N s s1 K)(h':∀k,K k->Rt N (s1 k) st J):Rt N s st J:=by
 intro W F μ a hr
 obtain⟨F',μ',k,hK,hr',hs⟩:=h W F μ a hr
 obtain⟨F'',μ'',i,hJ,hr'',hs'⟩:=h' k hK W F' μ' a hr'
 exact⟨F'',μ'',i,hJ,hr'',hs.trans hs'⟩
end
def lkF (b:List (Nat × SB))(f:Nat->SB):Sto:=fun id=>cond (Nat.ble 1000 id) (f (id-1000)) (lkB b id)
theorem GP (b:List (Nat × SB))(f:Nat->SB)(k:Nat):lkF b f (k+1000)=f k:=by
 have h:Nat.ble 1000 (k+1000)=true:=Nat.ble_eq_true_of_le (Nat.le_add_left 1000 k)
 show cond (Nat.ble 1000 (k+1000)) (f (k+1000-1000)) _=_
 rw [h,Nat.add_sub_cancel]
 rfl
theorem F8 (b:List (Nat × SB))(f:Nat->SB){id:Nat}(h:id<1000):lkF b f id=lkB b id:=by
 have:Nat.ble 1000 id=false:=by
  cases e:Nat.ble 1000 id
  ·rfl
  ·exact absurd (qW e) (by omega)
 rw [lkF,this,cond_false]
theorem WkF.to {s:St}{l:List (Nat × AV)}{b:List (Nat × SB)}{f:Nat -> SB}(ht:WkT s (lkF b f) l)(hB:WkB s (lkF b f) b)
  (hf:∀k bd',(f k).body=some bd'->∃bd,(s.σ (k+1000)).body=some bd/\RnB s.σ (lkF b f) bd bd'):Wk s ⟨lkT l,lkF b f⟩ :=
 ⟨mU ht,fun id bd' h=>by
  by_cases hid:1000<=id
  ·obtain⟨k,rfl⟩:∃k,id=k+1000:=⟨id-1000,by omega⟩
   rw [show (⟨lkT l,lkF b f⟩:St).σ (k+1000)=f k from GP b f k] at h
   exact hf k bd' h
  ·rw [show (⟨lkT l,lkF b f⟩:St).σ id=lkB b id from F8 b f (by omega)] at h
   exact fm hB id bd' h⟩
theorem RnB.rel {W:World}{F:Nat->Prop}{μ:Mu}{σ σ':Sto}{bd bd':aE}(hR:RnB σ σ' bd bd'){p:Option (Nat × Nat)}(hB:aM W F μ σ p bd):aM W F μ σ' p bd':=by
 cases hR with
 |row t m els=>exact hB
 |rowT t m n els=>exact hB.take n
 |obj o=>exact hB
 |@nest t els els' hl h1 hrn=>
  rcases hB with⟨hn,rfl⟩|⟨b,cap,cur,hp,hh,q1,q2,q3,q4⟩
  ·exact .inl ⟨hn,uD.1 hl⟩
  ·refine .inr ⟨b,cap,cur,hp,hh,by omega,q2,q3,fun k x' hk=>⟨h1 k x' hk,?_⟩⟩
   obtain⟨x,hx⟩:∃x,els[k]?=some x:=⟨_,qA (by rw [<- hl];exact (qD.1 hk).1)⟩
   obtain⟨_,v,hv,hr'⟩:=q4 k x hx
   exact⟨v,hv,(hrn k x x' hx hk).rel hr'⟩
 |ghost h h'=>exact⟨hB.1,by rw [h'];exact qJ _,fun bd _=>hB.2.2 _ h⟩
 |@box t cs cs' hl h1 hrn=>
  obtain⟨b,c,vs,hm,hw,hlv,hv⟩:=hB
  refine⟨b,c,vs,hm,hw,by rw [hlv,hl],fun j x' v hj hvj=>⟨h1 j x' hj,?_⟩⟩
  obtain⟨x,hxj⟩:∃x,cs[j]?=some x:=⟨_,qA (by rw [<- hl];exact (qD.1 hj).1)⟩
  exact (hrn j x x' hxj hj).rel (hv j x v hxj hvj).2
def Abd {α:Type}(J:Option (List α)->(Nat->Prop)->World->Prop):Prop :=
 ∀p M M' W1 W2,J p M W1->Kp M W1 W2->(∀b,M b->M' b)->(∀b,M' b->M b\/(W1.heap.size<=b/\b<W2.heap.size))->J p M' W2
def Yld {α:Type}(P:Program)(F:Nat->Prop)(enc:α->List AV)(Nx:List α->α->Prop)(l:Nat)(J:Option (List α)->(Nat->Prop)->World->Prop):Prop :=
 ∀pre x M W1 (vs:List Value),J (some pre) M W1->Nx pre x->(∀b,M b->b<W1.heap.size)->vs.length=(enc x).length ->
  (∀(j:Nat) (y:AV) (v:Value),(enc x)[j]?=some y->vs[j]?=some v->au W1 (fun b=>F b\/M b) y v) ->
  YieldAt Fence.wide 0 P l vs.toArray W1 fun e W2=>∃go:Bool,e = .returned (.bool go)/\J (if go then some (pre++[x]) else none) M W2/\Kp (fun b=>¬F b/\¬M b) W1 W2
structure Sd (F0:Nat->Prop)(W:World)(F:Nat->Prop)(μ:Mu)(σ:Sto)(a:Act)(M:Nat->Prop):Prop where
 own:∀b,Own μ σ b->M b
 fro:∀b,F b->F0 b\/M b
 fr0:∀b,F0 b->F b
 lt:∀b,M b->b<W.heap.size
 df:∀D,({ target:=.collected D,args:=#[] }:Deferred)∈a.defers->M D
theorem gY.lt {W:World}{F:Nat->Prop}{μ:Mu}{σ:Sto}{ds:List Deferred}(h:gY W F μ σ ds){D:Nat}(hD:({ target:=.collected D,args:=#[] }:Deferred)∈ds):W.heap[D]?=some (.deferred (some []))/\¬F D/\¬Own μ σ D:=by
 obtain⟨Ds,h1,rfl,h3⟩:=h
 obtain⟨D',h4,h5⟩:=vI.1 hD
 obtain rfl:D'=D:=by simpa using h5
 exact h3 _ h4
theorem gY.heap {W W':World}{F:Nat->Prop}{μ:Mu}{σ:Sto}{ds:List Deferred}(h:gY W F μ σ ds)(hk:∀D,({ target:=.collected D,args:=#[] }:Deferred)∈ds->W'.heap[D]?=W.heap[D]?):gY W' F μ σ ds:=by
 obtain⟨Ds,h1,rfl,h3⟩:=h
 exact⟨Ds,h1,rfl,fun D hD=>⟨(hk D (qX hD)).trans (h3 D hD).1,(h3 D hD).2⟩⟩
abbrev Bv {α:Type}(id:Nat)(Q:Exit->Option (List α)->St->Prop):Exit->Option (List α)->St->Prop
 | .exit id',p,s=>if id'=id then Q .normal p s else Q (.exit id') p s
 |e,p,s=>Q e p s
def AWJ {α:Type}(P:Program)(N:Nat)(F0:Nat->Prop)(J:Option (List α)->(Nat->Prop)->World->Prop)(c:Code)(Q:Exit->Option (List α)->St->Prop)(p:Option (List α))(s:St):Prop :=
 ∀W F μ a M,RS N W F μ s a->Sd F0 W F μ s.σ a M->J p M W->Code.wpIn Fence.wide 0 P c (fun e a' W'=>∃F' μ' s' p' M',Q e p' s'/\RS N W' F' μ' s' a'/\Sd F0 W' F' μ' s'.σ a' M'/\J p' M' W') a W
section
variable {α:Type} {P:Program} {N:Nat} {F0:Nat -> Prop} {J:Option (List α) -> (Nat -> Prop) -> World -> Prop} {Q:Exit -> Option (List α) -> St -> Prop} {p:Option (List α)} {s:St}
theorem AWJ.block {id:Nat}{c:Code}(h:AWJ P N F0 J c (Bv id Q) p s):AWJ P N F0 J (.block id c) Q p s:=by
 intro W F μ a M hr hd hj
 refine wpIn_block (wpIn_mono (h W F μ a M hr hd hj) ?_)
 rintro e a' W' ⟨F',μ',s',p',M',hq,hr',hd',hj'⟩
 cases e with
 |exit id'=>
  show if id'=id then _ else _
  simp only [Bv] at hq
  split
  ·rename_i e
   rw [if_pos e] at hq
   exact⟨F',μ',s',p',M',hq,hr',hd',hj'⟩
  ·rename_i e
   rw [if_neg e] at hq
   exact⟨F',μ',s',p',M',hq,hr',hd',hj'⟩
 |_=>exact⟨F',μ',s',p',M',hq,hr',hd',hj'⟩
end
end Go.Proofs.YtdidjpohnopihaaGreat.Sm
end
