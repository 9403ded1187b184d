/- Contracts of the program's functions over data, and the plain laws that they meet (part 3). No condition. -/
import Derived.Test.YtdidjpohnopihaaGreatVqb
import Derived.WalkKit
import Derived.WalkSpells
import Derived.WalkLawsBesides
import Derived.Lib.Hide
import Derived.Deep.RegionHeld3
import Derived.Maps.AppendAt
import Derived.KernelRfl
import Derived.Lib.AppendStr
import Derived.Orders
import Derived.LoopTactic
import Derived.Laws.CopyRow
import Derived.Laws.Cells
import Derived.OrdersIn
import Derived.Laws.Externs
import Derived.TacticsIn
import Derived.RangeFuncLeaves
import Derived.RangeFuncRecord
import Derived.Great.BuildSlice
import Derived.Laws.ResultCell
import Derived.Laws.StructEq
import Derived.Laws.MakeOwn
import Derived.Lib.AppendZerosOnto
import Derived.RangeFuncSeq
import Derived.RangeFuncIn
import Derived.Deep.Slices
import Derived.Deep.Fields
import Derived.ChangeSame
import Derived.ProofKit
import Derived.OpenShut
import Derived.SizedLaws
import Derived.Test.YtdidjpohnopihaaGreatProg
import Derived.Shelf.Spec.BitsCarry
import Derived.Laws.AppendOwn
set_option linter.unusedVariables false
set_option linter.unusedSimpArgs false
set_option maxRecDepth 100000
set_option maxHeartbeats 4000000
section
namespace Go.Proofs.YtdidjpohnopihaaGreat.Sm
open Go.RowKit
def AV.nof:AV->Bool
 | .b _ | .i _ _ | .u _ | .y _ | .s _ | .raw _ | .any=>true
 | .own id _ _ | .el id _ _ _ | .row id _ _ _ | .ref id _ _=>Nat.blt id 900
 |_=>false
theorem m5 {a b:Nat}(h:Nat.blt a b=true):a<b:=qW h
theorem xp {W:World}{F F':Nat->Prop}{μ μ':Mu}{σ σ':Sto}(hσ:∀id,id<900->σ' id=σ id/\μ' id=μ id){x:AV}{v:Value}(h:x.nof=true)(hx:Rel W F μ σ x v):Rel W F' μ' σ' x v:=by
 cases hx with
 |pure hp=>cases hp <;> first|(simp [AV.nof] at h;done)|(exact .pure (by constructor))
 |own id ep off v he h1 hv=>
  obtain⟨e1,e2⟩:=hσ id (m5 h)
  exact .own id ep off v (by rw [e1];exact he) h1 fun bd hb=>by rw [e2];exact hv bd (e1 ▸ hb)
 |el id ep k j v he h1 hv=>
  obtain⟨e1,e2⟩:=hσ id (m5 h)
  exact .el id ep k j v (by rw [e1];exact he) h1 fun bd m len hb hL=>by rw [e2];exact hv bd m len (e1 ▸ hb) hL
 |row id ep off n v he h1 hv=>
  obtain⟨e1,e2⟩:=hσ id (m5 h)
  exact .row id ep off n v (by rw [e1];exact he) h1 fun bd m len hb hL=>by rw [e2];exact hv bd m len (e1 ▸ hb) hL
 |ref id ep k v he h1 hv=>
  obtain⟨e1,e2⟩:=hσ id (m5 h)
  exact .ref id ep k v (by rw [e1];exact he) h1 fun bd hb=>by rw [e2];exact hv bd (e1 ▸ hb)
 |agg=>simp [AV.nof] at h
 |tup=>simp [AV.nof] at h
 |fn=>simp [AV.nof] at h
 |any v=>exact .any v
def aE.nof:aE->Bool
 | .box _ cs=>cs.all AV.nof
 | .row _ _ els=>els.all fun cs=>cs.all AV.flat1
 | .obj _=>true
 | .nest _ els=>els.all AV.nof
 | .ghost _ _ _=>false
theorem sa {W:World}{F F':Nat->Prop}{μ μ':Mu}{σ σ':Sto}(hσ:∀id,id<900->σ' id=σ id/\μ' id=μ id){p:Option (Nat × Nat)}{bd:aE}(h:bd.nof=true)(hb:aM W F μ σ p bd):aM W F' μ' σ' p bd:=by
 cases bd with
 |box t cs=>
  obtain⟨b,c,vs,hp,hh,hl,hr⟩:=hb
  exact⟨b,c,vs,hp,hh,hl,fun j x v h1 h2=>⟨(hr j x v h1 h2).1,xp hσ (qV.1 h x (qN h1)) (hr j x v h1 h2).2⟩⟩
 |row t m els=>
  rcases hb with hb|⟨b,cap,cur,hp,hh,h1,h2,h3,h4,h5⟩
  ·exact .inl hb
  ·refine .inr ⟨b,cap,cur,hp,hh,h1,h2,h3,h4,fun k cs j x g1 g2=>?_⟩
   obtain⟨q1,v,q2,q3⟩:=h5 k cs j x g1 g2
   exact⟨q1,v,q2,lf (qV.1 (qV.1 h cs (qN g1)) x (qN g2)) q3⟩
 |ghost id ep q=>cases h
 |obj o=>exact hb
 |nest t els=>
  rcases hb with hb|⟨b,cap,cur,hp,hh,h1,h2,h3,h5⟩
  ·exact .inl hb
  ·refine .inr ⟨b,cap,cur,hp,hh,h1,h2,h3,fun k x g1=>?_⟩
   obtain⟨q1,v,q2,q3⟩:=h5 k x g1
   exact⟨q1,v,q2,xp hσ (qV.1 h x (qN g1)) q3⟩
def l5 (p:Nat × SB):Bool:=Nat.blt p.1 900 && match p.2.body with
 |some bd=>bd.nof
 |none=>true
theorem nm {B:List (Nat × SB)}(h:B.all l5=true){k:Nat}{bd:aE}(hb:(lkB B k).body=some bd):k<900/\bd.nof=true:=by
 obtain⟨q,hq,rfl,e⟩:=iB hb
 have:=qV.1 h q hq
 unfold l5 at this
 rw [qQ,e,hb] at this
 exact⟨m5 this.1,this.2⟩
def l4 (ks:List Nat):AV->Bool
 | .own id ep _=>Nat.beq ep 0 && ks.any (Nat.beq id)
 | .ref id ep _=>Nat.beq ep 0 && ks.any (Nat.beq id)
 |x=>x.pu1
theorem xq {ks:List Nat}{id:Nat}(h:ks.any (Nat.beq id)=true):id∈ks:=by
 obtain⟨k,hk,e⟩:=List.any_eq_true.1 h
 rw [qY e]
 exact hk
theorem rK {W W':World}{F F':Nat->Prop}{μ μ':Mu}{σ σ':Sto}{ks:List Nat}(hF:∀b,F b->b<W.heap.size->W'.heap[b]?=W.heap[b]?/\F' b)(hk:∀id∈ks,μ' id=μ id/\∃bd,σ id=⟨0,some bd⟩){x:AV}{v:Value}(h:l4 ks x=true)(hx:Rel W F μ σ x v):Rel W' F' μ' σ' x v:=by
 cases x with
 |own id ep off=>
  simp only [l4,qQ] at h
  obtain⟨e1,bd0,e2⟩:=hk id (xq h.2)
  obtain rfl:ep=0:=qY h.1
  cases hx with
  |pure hp=>cases hp
  |own _ _ _ _ he h1 hv=>exact .own id 0 off v (qR _) h1 fun bd hb=>by rw [e1];exact hv bd0 e2
 |ref id ep k=>
  simp only [l4,qQ] at h
  obtain⟨e1,bd0,e2⟩:=hk id (xq h.2)
  obtain rfl:ep=0:=qY h.1
  cases hx with
  |pure hp=>cases hp
  |ref _ _ _ _ he h1 hv=>exact .ref id 0 k v (qR _) h1 fun bd hb=>by rw [e1];exact hv bd0 e2
 |_=>exact .pure ((kD (by simpa only [l4] using h) hx).keep (fun b h1 h2=>(hF b h1 h2).1) fun b h1 h2=>(hF b h1 h2).2)
theorem tQ {ks:List Nat}:∀{T:List (Nat × AV)},T.all (fun p=>l4 ks p.2)=true->∀t,l4 ks (lkT T t)=true\/lkT T t = .any
 |[],_,t=>.inr rfl
 |p::T,h,t=>by
  rw [yB,qQ] at h
  show l4 ks (cond (Nat.beq t p.1) p.2 (lkT T t))=true\/cond (Nat.beq t p.1) p.2 (lkT T t) = .any
  cases Nat.beq t p.1 with
  |true=>exact .inl h.1
  |false=>exact tQ h.2 t
def prm (N:Nat):List Nat->List AV->(Nat->AV)->Nat->AV
 |t::ts,y::ys,f=>prm N ts ys (eH N f (some t) y)
 |_,_,f=>f
theorem Cd {W:World}{F:Nat->Prop}{μ:Mu}{σ:Sto}{N:Nat}:∀(ps:List Nat) (ys:List AV) (vs:List Value) (f:Nat->AV) (tm:Array Value),tm.size=N->ys.length=vs.length->(∀t,Rel W F μ σ (f t) (tm.getD t undef))->(∀(j:Nat) (y:AV) (v:Value),ys[j]?=some y->vs[j]?=some v->Rel W F μ σ y v) ->
  ((ps.zip vs).foldl (fun tmps (p:Nat × Value)=>tmps.setIfInBounds p.1 p.2) tm).size=N/\∀t,Rel W F μ σ (prm N ps ys f t) (((ps.zip vs).foldl (fun tmps (p:Nat × Value)=>tmps.setIfInBounds p.1 p.2) tm).getD t undef)
 |[],ys,vs,f,tm,hn,hl,h,_=>⟨hn,fun t=>h t⟩
 |p::ps,[],[],f,tm,hn,hl,h,_=>⟨hn,fun t=>h t⟩
 |p::ps,[],v::vs,f,tm,hn,hl,h,_=>by simp at hl
 |p::ps,y::ys,[],f,tm,hn,hl,h,_=>by simp at hl
 |p::ps,y::ys,v::vs,f,tm,hn,hl,h,hy=>by
  refine Cd ps ys vs (eH N f (some p) y) (tm.setIfInBounds p v) (by simpa using hn) (by simpa using hl) (fun t=>?_) (fun j y' v' h1 h2=>hy (j+1) y' v' h1 h2)
  rw [pS]
  have:=so { tmps:=tm,defers:=[] } (some p) v t
  simp only [Act.put,hn] at this
  rw [this]
  split
  ·exact hy 0 y v rfl rfl
  ·exact h t
theorem Cq {q:Nat->Option (Nat × Nat)}{ks:List Nat}{B:List (Nat × SB)}(hn:B.all l5=true){W:World}{F:Nat->Prop}{μ:Mu}(hi:Inv W F μ (lkB B))(hq:∀id∈ks,id<900/\q id=μ id):Inv W F (fun id=>if Nat.ble 900 id then none else μ id) (lkB (gl q ks B)):=by
 have lo:∀id,id<900->lkB (gl q ks B) id=lkB B id/\(if Nat.ble 900 id then none else μ id)=μ id:=fun id h=>⟨lV h ks,by
  have:Nat.ble 900 id=false:=by
   cases e:Nat.ble 900 id
   ·rfl
   ·exact absurd (qW e) (by omega)
  rw [this];rfl⟩
 have hi9:∀id,900<=id->(if Nat.ble 900 id then none else μ id)=(none:Option (Nat × Nat)):=fun id h=>by rw [Nat.ble_eq_true_of_le h];rfl
 have al:∀{id:Nat} {b c:Nat} {bd:aE},(lkB (gl q ks B) id).body=some bd->(if Nat.ble 900 id then none else μ id)=some (b,c)->(lkB B id).body=some bd/\μ id=some (b,c):=fun {id b c bd} h1 h2=>by
  by_cases h:id<900
  ·rw [<- (lo id h).1,<- (lo id h).2];exact⟨h1,h2⟩
  ·rw [hi9 id (by omega)] at h2;cases h2
 refine⟨fun id ep bd hb=>?_,fun b ⟨id,ep,bd,c,h1,h2⟩=>?_,fun id id' b c c' h1 h2 h3 h4=>?_,hi.old,hi.lay⟩
 ·rcases xd (show (lkB (gl q ks B) id).body=some bd by rw [hb]) with⟨i,rfl,rfl⟩|hB
  ·have hin:i ∈ ks := by
    refine Classical.byContradiction fun hno=>?_
    have:∀ks':List Nat,i∉ks'->lkB (gl q ks' B) (900+i)=lkB B (900+i):=by
     intro ks'
     induction ks' with
     |nil=>intro _;rfl
     |cons a l ih=>
      intro h
      show cond (Nat.beq (900+i) (900+a)) _ (lkB (gl q l B) (900+i))=_
      rw [nQ (fun e=>h (by rw [show i=a by omega];exact vD))]
      exact ih fun h'=>h (qZ _ h')
    rw [this ks hno] at hb
    have:=(nm hn (show (lkB B (900+i)).body=some _ by rw [hb])).1
    omega
   refine⟨hi9 _ (by omega),qR _,fun bd hbd=>?_⟩
   exact (lo i (hq i hin).1).2.trans (hq i hin).2.symm
  ·obtain⟨h1,h2⟩:=nm hn hB
   have:=hi.body id (lkB B id).ep bd (by rw [<- hB])
   rw [(lo id h1).2]
   exact sa lo h2 this
 ·obtain⟨g1,g2⟩:=al (by rw [h1]) h2
  exact hi.apart b ⟨id,(lkB B id).ep,bd,c,by rw [<- g1],g2⟩
 ·obtain⟨bd,e1⟩:=vY.1 h1
  obtain⟨bd',e2⟩:=vY.1 h2
  obtain⟨g1,g2⟩:=al e1 h3
  obtain⟨g3,g4⟩:=al e2 h4
  exact hi.inj id id' b c c' (by rw [g1];rfl) (by rw [g3];rfl) g2 g4
theorem Fc {q:Nat->Option (Nat × Nat)}{ks:List Nat}{B:List (Nat × SB)}{μ:Mu}{b:Nat}(h:Own (fun id=>if Nat.ble 900 id then none else μ id) (lkB (gl q ks B)) b):Own μ (lkB B) b:=by
 obtain⟨id,ep,bd,c,h1,h2⟩:=h
 by_cases h9:id<900
 ·have:Nat.ble 900 id=false:=by
   cases e:Nat.ble 900 id
   ·rfl
   ·exact absurd (qW e) (by omega)
  replace h2:(if Nat.ble 900 id then none else μ id)=some (b,c):=h2
  rw [this] at h2
  rw [lV h9] at h1
  exact⟨id,ep,bd,c,h1,h2⟩
 ·replace h2:(if Nat.ble 900 id then none else μ id)=some (b,c):=h2
  rw [Nat.ble_eq_true_of_le (by omega)] at h2
  cases h2
abbrev By (K:St->Prop):Exit->St->Prop:=hZ K fun _ _=>False
section
variable {α:Type} {P:Program} {N:Nat} {Q:Exit -> St -> Prop} {s:St} {g:Operand} {ps:Array Tmp} {assign body:Code} {f:FuncId} {caps ys:List AV} {enc:α -> List AV} {Nx:List α -> α -> Prop} {Fin:List α -> Prop}
def Rng (P:Program)(N:Nat)(W0:World)(F:Nat->Prop)(μ0:Mu)(σ0:Sto)(a:Act)(T:List (Nat × AV))(G:List α->List (Nat × SB))(rec:LoopState->Option Code->Loop):Option (List α)->(Nat->Prop)->World->Prop
 |none,_,_=>False
 |some pre,M,W=>∃μ,RS N W F μ (stL T (G pre)) { a with defers:={ target:=.collected W0.heap.size,args:=#[] }::a.defers }/\Stq W0 F μ0 σ0 W F μ (lkB (G pre))/\W.heap[W0.heap.size+1]?=some (.loop (rec .ready none)) /\
   (∀b,M b->W0.heap.size+2<=b)/\W0.heap.size+2<=W.heap.size/\(∀b,M b->¬Own μ (lkB (G pre)) b)/\¬Own μ (lkB (G pre)) (W0.heap.size+1)
theorem Rng.abd {W0:World}{F:Nat->Prop}{μ0:Mu}{σ0:Sto}{a:Act}{T:List (Nat × AV)}{G:List α->List (Nat × SB)}{rec:LoopState->Option Code->Loop}(hF:∀b,F b->b<W0.heap.size)(hds:∀D,({ target:=.collected D,args:=#[] }:Deferred)∈a.defers->D<W0.heap.size):Abd (Rng P N W0 F μ0 σ0 a T G rec):=by
 intro p M M' W1 W2 hj hk h1 h2
 cases p with
 |none=>exact hj
 |some pre=>
  obtain⟨μ,hr,hs,hl,hm,hz,ho,hol⟩:=hj
  have nF:∀b,F b->¬M b:=fun b hb hM=>by have:=hF b hb;have:=hm b hM;omega
  have hr':RS N W2 F μ (stL T (G pre)) { a with defers:={ target:=.collected W0.heap.size,args:=#[] }::a.defers }:=by
   refine hr.heap hk.size (fun b hlt hb=>hk.block b hlt fun hM=>hb.elim (nF b · hM) (ho b hM)) (hr.defers.heap fun D hD=>?_)
   obtain⟨e1,e2,e3⟩:=hr.defers.lt hD
   have hlt:=(qI.1 e1).1
   refine hk.block D hlt fun hM=>?_
   have:=hm D hM
   rcases vA.1 hD with e|e
   ·obtain rfl:D=W0.heap.size:=by simpa using e
    omega
   ·have:=hds D e
    omega
  refine⟨μ,hr',⟨?_,hs.fro,hs.new,hs.own⟩,(hk.block _ (by omega) fun hM=>by have:=hm _ hM;omega).trans hl,fun b hb=>?_,vH hz hk.size,fun b hb=>?_,hol⟩
  ·exact hs.kp.trans2 hk fun g hlt hM=>by have:=hm g hM;omega
  ·rcases h2 b hb with h|h
   ·exact hm b h
   ·omega
  ·rcases h2 b hb with h|h
   ·exact ho b h
   ·exact fun hown=>by have:=(hr.inv.apart b hown).1;omega
theorem aM.toF {W:World}{F F':Nat->Prop}{μ:Mu}{σ:Sto}(hF:∀b,F b->F' b){p:Option (Nat × Nat)}{bd:aE}(hb:aM W F μ σ p bd):aM W F' μ σ p bd:=by
 cases bd with
 |box t cs=>
  obtain⟨b,c,vs,hp,hh,hl,hr⟩:=hb
  exact⟨b,c,vs,hp,hh,hl,fun j x v h1 h2=>⟨(hr j x v h1 h2).1,(hr j x v h1 h2).2.toF hF⟩⟩
 |row t m els=>
  rcases hb with hb|⟨b,cap,cur,hp,hh,h1,h2,h3,h4,h5⟩
  ·exact .inl hb
  ·refine .inr ⟨b,cap,cur,hp,hh,h1,h2,h3,h4,fun k cs j x g1 g2=>?_⟩
   obtain⟨q1,v,q2,q3⟩:=h5 k cs j x g1 g2
   exact⟨q1,v,q2,q3.to hF⟩
 |ghost id ep q=>exact hb
 |obj o=>exact hb
 |nest t els=>
  rcases hb with hb|⟨b,cap,cur,hp,hh,h1,h2,h3,h5⟩
  ·exact .inl hb
  ·refine .inr ⟨b,cap,cur,hp,hh,h1,h2,h3,fun k x g1=>?_⟩
   obtain⟨q1,v,q2,q3⟩:=h5 k x g1
   exact⟨q1,v,q2,q3.toF hF⟩
theorem Fv {q:Nat->Option (Nat × Nat)}{ks:List Nat}{B:List (Nat × SB)}(hn:B.all l5=true){W:World}{F F':Nat->Prop}{μ:Mu}{σ:Sto}{id:Nat}{bd:aE}(hb:(lkB (gl q ks B) id).body=some bd){p:Option (Nat × Nat)}(h:aM W F μ σ p bd):aM W F' μ σ p bd:=by
 rcases xd hb with⟨i,rfl,rfl⟩|hB
 ·exact h
 ·exact sa (fun id _=>⟨rfl,rfl⟩) (nm hn hB).2 h
end
structure Ctx where
 X:Nat->Prop
 h:Nat->Option Obj
def Ctx.In (C:Ctx)(W:World)(F:Nat->Prop):Prop:=∀b,C.X b->F b/\W.heap[b]?=C.h b
structure IAt {α:Type}(P:Program)(f:FuncId)(cs:List Value)(enc:α->List AV)(Nx:List α->α->Prop)(Fin:List α->Prop)(W:World)(F:Nat->Prop):Prop where
 calls:∀W1,Kp No W W1->∀(l:Nat) (J:Option (List α)->(Nat->Prop)->World->Prop),Abd J->Yld P F enc Nx l J->J (some []) (fun _=>False) W1 ->
  Calls P f (.func (.yield l) #[] #[]::cs).toArray W1 fun e W'=>(∃v,e = .returned v)/\∃M,J none M W'\/∃pre,Fin pre/\J (some pre) M W'
def AWC (C:Ctx)(P:Program)(N:Nat)(c:Code)(Q:Exit->St->Prop)(s:St):Prop :=
 ∀W F μ a,C.In W F->RS N W F μ s a->Code.wpA c P (fun e a' W'=>∃F' μ' s',Q e s'/\RS N W' F' μ' s' a'/\Std W F μ s.σ a W' F' μ' s'.σ a') a W
section
variable {C:Ctx} {P:Program} {N:Nat} {Q:Exit -> St -> Prop} {s:St}
theorem Ctx.In.step {W W':World}{F F':Nat->Prop}{μ μ':Mu}{σ σ':Sto}(h:C.In W F)(hi:Inv W F μ σ)(hs:Stq W F μ σ W' F' μ' σ'):C.In W' F':=fun b hb=>by
 obtain⟨h1,h2⟩:=h b hb
 exact⟨hs.fro b h1,(hs.kp.block b (hi.old b h1) fun ho=>(hi.apart b ho).2 h1).trans h2⟩
theorem AWC.lift {c:Code}(h:AW P N c Q s):AWC C P N c Q s:=fun W F μ a _ hr=>h W F μ a hr
theorem AWC.seq {x y:Code}(h:AWC C P N x (hZ (AWC C P N y Q) Q) s):AWC C P N (.seq x y) Q s:=by
 intro W F μ a hC hr ro hn
 refine wpIn_seq (wpIn_mono (h W F μ a hC hr ro fun e=>hn (by simp [eP,e])) ?_)
 rintro e a' W' ⟨F',μ',s',hq,hr',hs⟩
 cases e with
 |normal=>exact wpIn_mono (hq W' F' μ' a' (hC.step hr.inv hs.toStq) hr' ro fun e=>hn (by simp [eP,e])) (fun e a'' W'' ⟨F'',μ'',s'',q,r,st⟩=>⟨F'',μ'',s'',q,r,hs.trans st⟩)
 |_=>exact⟨F',μ',s',hq,hr',hs⟩
theorem AWC.block {id:Nat}{c:Code}(h:AWC C P N c (jS id Q) s):AWC C P N (.block id c) Q s:=by
 intro W F μ a hC hr ro hn
 refine wpIn_block (wpIn_mono (h W F μ a hC hr ro hn) ?_)
 rintro e a' W' ⟨F',μ',s',hq,hr',hs⟩
 cases e with
 |exit id'=>
  simp only [jS] at hq
  simp only [Exit.inBlock]
  split
  ·rename_i e;rw [if_pos e] at hq;exact⟨F',μ',s',hq,hr',hs⟩
  ·rename_i e;rw [if_neg e] at hq;exact⟨F',μ',s',hq,hr',hs⟩
 |_=>exact⟨F',μ',s',hq,hr',hs⟩
theorem AWC.fst {x y:Code}(h:AW P N x (hZ (AWC C P N y Q) Q) s):AWC C P N (.seq x y) Q s:=AWC.seq (AWC.lift h)
end
section
variable {α:Type} {P:Program} {N:Nat} {Q:Exit -> St -> Prop} {s:St} {g:Operand} {ps:Array Tmp} {assign body:Code} {f:FuncId} {enc:α -> List AV} {Nx:List α -> α -> Prop} {Fin:List α -> Prop}
theorem AWC.rangeFunc {C : Ctx} {cs : List Value} (hfF : ∃ fn c, P.funcs[f]? = some fn /\ fn.body = some c /\ (fn.name == "runtime.NumGoroutine") = false) (hI : ∀ W F, C.In W F -> (∀ b, F b -> b < W.heap.size) -> IAt P f cs enc Nx Fin W F) (hg : s.ev g = .raw (.func (.func f) #[] cs.toArray)) (hps : ∀ x, (enc x).length = ps.size) (hrf : (eP assign || eP body) = false)
  (ks:List Nat) (T:List (Nat × AV)) (B:List α->List (Nat × SB)) (hT:WkT s (lkB (B [])) T) (hB:WkB s (lkB (B [])) (B [])) (hTs:T.all (fun p=>l4 ks p.2)=true)
  (hk:∀pre,∀id∈ks,id<900/\∃bd,lkB (B pre) id=⟨0,some bd⟩) (hn:∀pre,(B pre).all l5=true)
  (round:∀q pre x,Nx pre x->AW P N assign (By fun s1=>AW P N body (By fun s2=>WkB s2 (lkB (gl q ks (B (pre++[x])))) (gl q ks (B (pre++[x])))) s1) ⟨prm N ps.toList (enc x) (lkT T),lkB (gl q ks (B pre))⟩)
  (done:∀q pre,Fin pre->Q .normal (stL T (gl q ks (B pre)))):AWC C P N (.rangeFunc g ps assign body) Q s:=by
 intro W0 F μ0 a hC hr ro hro
 obtain rfl:=hro rfl
 obtain⟨rf1,rf2⟩:eP assign=false/\eP body=false:=by simpa using hrf
 have hge:a.eval g = .func (.func f) #[] cs.toArray:=by
  have h:=hr.ev g
  rw [hg] at h
  exact h.raw'
 have hF0:=hr.inv.old
 have hds:∀D,({ target:=.collected D,args:=#[] }:Deferred)∈a.defers->D<W0.heap.size:=fun D hD=>(qI.1 (hr.defers.lt hD).1).1
 -- the state is told anew, with ghosts
 have hwk:Wk s (stL T (B [])):=⟨fun t=>mU hT t,fm hB⟩
 have hr1:=hwk.rs hr
 obtain⟨q,hq⟩:∃q:Nat->Option (Nat × Nat),∀id,q id=μ0 id:=⟨μ0,fun _=>rfl⟩
 have hi1:=Cq (ks:=ks) (q:=q) (hn []) hr1.inv fun id hid=>⟨(hk [] id hid).1,hq id⟩
 have ho1:∀b,Own (fun id=>if Nat.ble 900 id then none else μ0 id) (lkB (gl q ks (B []))) b->Own μ0 s.σ b:=fun b hb=>hwk.own (Fc hb)
 have hs1:Stq W0 F μ0 s.σ W0 F (fun id=>if Nat.ble 900 id then none else μ0 id) (lkB (gl q ks (B []))):=⟨Kp.refl _ _,fun _ h=>h,fun _ h=>.inl h,fun b hb=>.inl (ho1 b hb)⟩
 have hmu:∀id∈ks,(if Nat.ble 900 id then none else μ0 id)=μ0 id:=fun id hid=>by
  have h9:=(hk [] id hid).1
  have:Nat.ble 900 id=false:=by
   cases e:Nat.ble 900 id
   ·rfl
   ·exact absurd (qW e) (by omega)
  rw [this];rfl
 have ht1:∀t,Rel W0 F (fun id=>if Nat.ble 900 id then none else μ0 id) (lkB (gl q ks (B []))) (lkT T t) (a.tmps.getD t undef):=fun t=>by
  rcases tQ hTs t with h|h
  ·exact rK (μ:=μ0) (σ:=lkB (B [])) (fun b h1 h2=>⟨rfl,h1⟩) (fun id hid=>⟨hmu id hid,(hk [] id hid).2⟩) h (hr1.ts t)
  ·rw [h];exact .any _
 generalize (fun id=>if Nat.ble 900 id then none else μ0 id)=μ1 at hi1 ho1 hs1 ht1
 have hr2:RS N W0 F μ1 (stL T (gl q ks (B []))) a:=⟨ht1,hr.defers.go hs1,hr.n,hi1⟩
 refine wpIn_rangeFunc ?_
 intro fn hfn
 obtain⟨rec,hrec⟩:∃rec:LoopState->Option Code->Loop,rec=fun st pe=>{ state:=st,pending:=pe,fn,tmps:=a.tmps,params:=ps,assign,body,defers:=W0.heap.size }:=⟨_,rfl⟩
 obtain⟨W1,hW1⟩:∃W1,(W0.alloc (.deferred (some []))).alloc (.loop (rec .ready none))=W1:=⟨_,rfl⟩
 have hz1:W1.heap.size=W0.heap.size+2:=by rw [<- hW1];simp
 have hL1:W1.heap[W0.heap.size+1]?=some (.loop (rec .ready none)):=by
  rw [<- hW1];have:=World.alloc_heap_new (W0.alloc (.deferred (some []))) (.loop (rec .ready none));rwa [World.size_alloc] at this
 have hK1:W1.heap[W0.heap.size]?=some (.deferred (some [])):=by
  rw [<- hW1];exact (Below.heap_alloc _ _ _ (by simp)).trans (World.alloc_heap_new W0 _)
 have hk1:Kp No W0 W1:=by rw [<- hW1];exact ((Kp.refl No W0).alloc _).alloc _
 have hr3:RS N W1 F μ1 (stL T (gl q ks (B []))) { a with defers:={ target:=.collected W0.heap.size,args:=#[] }::a.defers }:=by
  refine hr2.heap hk1.size (fun b hlt _=>hk1.block b hlt fun h=>h) ?_
  obtain⟨Ds,d1,d2,d3⟩:=hr2.defers
  refine⟨W0.heap.size::Ds,vV.2 ⟨fun h=>?_,d1⟩,by rw [vE,d2],fun D hD=>?_⟩
  ·have:=(qI.1 (d3 _ h).1).1
   omega
  ·rcases vA.1 hD with rfl|h
   ·exact⟨hK1,fun h=>by have:=hF0 _ h;omega,fun h=>by have:=(hi1.apart _ h).1;omega⟩
   ·have hlt:=(qI.1 (d3 _ h).1).1
    exact⟨(hk1.block D hlt fun h=>h).trans (d3 D h).1,(d3 D h).2⟩
 obtain⟨fn0,bd0,g1,g2,g3⟩:=hfF
 have eg:∀args w,(callFunc f args).run P w = .ok (.enter f args) w:=fun args w=>by
  have g3' : ¬ fn0.name = "runtime.NumGoroutine" := by simpa using g3
  simp [callFunc,program,g1,g2,g3',Sem.run]
 refine⟨W0.heap.size+1,[{ target:=.collected W0.heap.size,args:=#[] }],W1,{ target:=.fn (.func f) cs.toArray,args:=#[.func (.yield (W0.heap.size+1)) #[] #[]] },W1,f,
  #[.func (.yield (W0.heap.size+1)) #[] #[]]++cs.toArray,W1,?_,?_,fun _ _=>trivial,?_,fun e=>(by cases e),?_⟩
 ·rw [<- hW1,hrec];exact run_enterLoop_outer _ _ _ _ _
 ·simp only [resolve,hge]
  simp [go_sem]
 ·simp [invoke,go_sem,eg]
 ·have hj0:Rng P N W0 F μ0 s.σ a T (fun pre=>gl q ks (B pre)) rec (some []) (fun _=>False) W1 :=
   ⟨μ1,hr3,⟨hk1.mono fun k _ h=>h.elim,hs1.fro,fun b hb=>(hs1.new b hb),hs1.own⟩,hL1,fun b h=>h.elim,by omega,fun b h=>h.elim,fun h=>by have:=(hi1.apart _ h).1;omega⟩
  have hcall:=(hI W0 F hC hF0).calls W1 hk1 (W0.heap.size+1) _ (Rng.abd (P:=P) (N:=N) (μ0:=μ0) (σ0:=s.σ) (T:=T) (G:=fun pre=>gl q ks (B pre)) (rec:=rec) hF0 hds) ?_ hj0
  ·have e0:#[Value.func (.yield (W0.heap.size+1)) #[] #[]]++cs.toArray=(Value.func (.yield (W0.heap.size+1)) #[] #[]::cs).toArray:=by simp
   rw [e0]
   refine ((Bs none).2 hcall).mono ?_
   rintro e W2 ⟨⟨v,rfl⟩,M,hj|⟨pre,hfin,μ2,hr4,hs4,hl4,hm4,hz4,hom,hol⟩⟩
   ·exact hj.elim
   ·have hend:=run_endLoop (P:=P) hl4 (by rw [hrec];simp)
    refine⟨none,W2.putObj (W0.heap.size+1) (.loop { rec .ready none with state:=.exhausted }),by rw [hrec] at hend ⊢;exact hend,?_⟩
    have hkl:∀b,b≠W0.heap.size+1->(W2.putObj (W0.heap.size+1) (.loop { rec .ready none with state:=.exhausted })).heap[b]?=W2.heap[b]?:=fun b h=>World.putObj_heap_other h
    refine⟨F,μ2,_,done q pre hfin,?_,⟨⟨?_,hs4.fro,hs4.new,hs4.own⟩,fun d hd=>?_⟩⟩
    ·have := hr4.heap (W' := W2.putObj (W0.heap.size + 1) (.loop { rec .ready none with state := .exhausted })) (by simp) (fun b hlt hb=>hkl b fun e=>by
      subst e
      rcases hb with hb|hb
      ·have:=hF0 _ hb;omega
      ·exact hol hb) (hr4.defers.heap fun D hD=>hkl D fun e=>by
       subst e
       rw [(hr4.defers.lt hD).1] at hl4
       cases hl4)
     exact this
    ·refine hs4.kp.trans2 (S':=fun b=>b=W0.heap.size+1) ⟨rfl,rfl,rfl,by simp,fun b _ h=>hkl b h⟩ fun g hlt e=>?_
     omega
    ·rcases vA.1 hd with rfl|h
     ·exact .inr ⟨_,rfl,qJ _⟩
     ·exact .inl h
  ·-- one round
   rintro pre x M W vs ⟨μk,hrk,hsk,hlk,hmk,hzk,homk,holk⟩ hnx hMlt hvl hvr
   have hsize:vs.toArray.size=(rec .ready none).params.size:=by rw [hrec];simp [hvl,hps x]
   have hy:=run_yield (P:=P) (args:=vs.toArray) hlk hsize
   refine⟨_,_,_,_,hy,?_⟩
   subst hrec
   have hlt:W0.heap.size+1<W.heap.size:=by omega
   have nM:¬M (W0.heap.size+1):=fun h=>by have:=hmk _ h;omega
   have nF:¬F (W0.heap.size+1):=fun h=>by have:=hF0 _ h;omega
   refine roundIn_of_wpIn trivial ?_
   have hpr:=Cd (W:=W) (F:=fun b=>F b\/M b) (μ:=μk) (σ:=lkB (gl q ks (B pre))) ps.toList (enc x) vs (lkT T) a.tmps hrk.n hvl.symm (fun t=>(hrk.ts t).toF fun b hb=>.inl hb) (fun j y v h1 h2=>.pure (hvr j y v h1 h2))
   have hfold:(ps.zip vs.toArray).foldl (fun tmps (t,a)=>tmps.setIfInBounds t a) a.tmps=(ps.toList.zip vs).foldl (fun tmps (p:Nat × Value)=>tmps.setIfInBounds p.1 p.2) a.tmps:=by
    rw [<- Array.foldl_toList,Array.toList_zip]
   show Code.wpIn _ _ _ _ _ { tmps:=(ps.zip vs.toArray).foldl (fun tmps (t,a)=>tmps.setIfInBounds t a) a.tmps,defers:=[] } W
   rw [hfold]
   generalize (ps.toList.zip vs).foldl (fun tmps (p:Nat × Value)=>tmps.setIfInBounds p.1 p.2) a.tmps=tm at hpr
   have hrX:RS N W (fun b=>F b\/M b) μk ⟨prm N ps.toList (enc x) (lkT T),lkB (gl q ks (B pre))⟩ { tmps:=tm,defers:=[] } :=
    ⟨hpr.2,.nil,hpr.1,⟨fun id ep bd hb=>(hrk.inv.body id ep bd hb).toF fun b hb=>.inl hb,fun b hb=>⟨(hrk.inv.apart b hb).1,fun h=>h.elim (hrk.inv.apart b hb).2 fun hm=>homk b hm hb⟩,hrk.inv.inj,fun b hb=>hb.elim (hrk.inv.old b) (hMlt b),hrk.inv.lay.go (fun _ h=>.inl h) fun _ _=>rfl⟩⟩
   refine wpIn_mono (round q pre x hnx W _ μk _ hrX (some (W0.heap.size+1)) (fun h=>by rw [rf1] at h;cases h)) ?_
   rintro e a1 w1 ⟨F1,μa,s1,hq1,hra,hsa⟩
   cases e with
   |normal=>
    have hl1:=(hsa.kp.block _ hlt holk).trans hlk
    have nO1:¬Own μa s1.σ (W0.heap.size+1):=fun h=>by
     rcases hsa.own _ h with h|h
     ·exact holk h
     ·omega
    have nF1:¬F1 (W0.heap.size+1):=fun h=>by
     rcases hsa.new _ h with (h|h)|h|h
     ·exact nF h
     ·exact nM h
     ·exact holk h
     ·omega
    refine⟨_,run_beginRound hl1 rfl,?_⟩
    generalize hw2:w1.putObj (W0.heap.size+1) _=w2
    have hkl:∀b,b≠W0.heap.size+1->w2.heap[b]?=w1.heap[b]?:=fun b h=>by rw [<- hw2];exact World.putObj_heap_other h
    have hz2:w2.heap.size=w1.heap.size:=by rw [<- hw2];simp
    have hl2:w2.heap[W0.heap.size+1]?=some (.loop { state:=.busy,pending:=none,fn,tmps:=a.tmps,params:=ps,assign,body,defers:=W0.heap.size }):=by
     rw [<- hw2];exact World.putObj_heap_same (qI.1 hl1).1
    have hkp2:Kp (fun b=>b=W0.heap.size+1) w1 w2:=by rw [<- hw2];exact⟨rfl,rfl,rfl,by simp,fun b _ h=>World.putObj_heap_other h⟩
    have hrb:RS N w2 F1 μa s1 a1:=hra.heap (by omega) (fun b _ hb=>hkl b fun e=>by subst e;exact hb.elim nF1 nO1) (hra.defers.heap fun D hD=>hkl D fun e=>by
     subst e
     rw [(hra.defers.lt hD).1] at hl1
     cases hl1)
    refine wpIn_mono (hq1 w2 F1 μa a1 hrb (some (W0.heap.size+1)) (fun h=>by rw [rf2] at h;cases h)) ?_
    rintro e a3 W3 ⟨F3,μ3,s3,hq3,hr3,hs3⟩
    cases e with
    |normal=>
     have hsz1:=hsa.kp.size
     have hsz3:=hs3.kp.size
     have hl3:=(hs3.kp.block _ (by omega) nO1).trans hl2
     -- from the round's beginning to its end
     have own3:∀b,Own μ3 s3.σ b->Own μk (lkB (gl q ks (B pre))) b\/W.heap.size<=b:=fun b hb=>by
      rcases hs3.own b hb with h|h
      ·exact hsa.own b h
      ·exact .inr (by omega)
     have kp3:Kp (fun b=>Own μk (lkB (gl q ks (B pre))) b\/b=W0.heap.size+1) W W3:=by
      refine (hsa.kp.mono fun k _ h=>.inl h).trans2 ((hkp2.mono fun k _ h=>.inl h).trans2 (S':=Own μa s1.σ) (S:=fun b=>b=W0.heap.size+1\/Own μa s1.σ b) hs3.kp fun g _ h=>.inr h) fun g hlt' h=>?_
      rcases h with h|h
      ·exact .inr h
      ·rcases hsa.own g h with h|h
       ·exact .inl h
       ·omega
     have hw3:Wk s3 ⟨fun _=>.any,lkB (gl q ks (B (pre++[x])))⟩:=⟨fun _=>.any _,fm hq3⟩
     have hr3':=hw3.rs hr3
     have own3':∀b,Own μ3 (lkB (gl q ks (B (pre++[x])))) b->Own μk (lkB (gl q ks (B pre))) b\/W.heap.size<=b:=fun b hb=>own3 b (hw3.own hb)
     have fF:∀b,F b->F3 b:=fun b hb=>hs3.fro b (hsa.fro b (.inl hb))
     have hinv:Inv W3 F μ3 (lkB (gl q ks (B (pre++[x])))):=⟨fun id ep bd hb=>Fv (hn _) (show (lkB (gl q ks (B (pre++[x]))) id).body=some bd by rw [show lkB (gl q ks (B (pre++[x]))) id=_ from hb]) (hr3'.inv.body id ep bd hb),fun b hb=>⟨(hr3'.inv.apart b hb).1,fun h=>(hr3'.inv.apart b hb).2 (fF b h)⟩,hr3'.inv.inj,fun b hb=>hr3'.inv.old b (fF b hb),hrk.inv.lay.keep hrk.inv.old (fun _ h=>h) fun b hb hlt=>kp3.block b hlt fun h=>h.elim (fun h=>(hrk.inv.apart b h).2 hb) fun h=>nF (h ▸ hb)⟩
     have mu3:∀id∈ks,μ3 id=μk id:=fun id hid=>by
      have h1:=hrk.inv.body (900+id) 0 (.ghost id 0 (q id)) (wM hid)
      have h3:=hinv.body (900+id) 0 (.ghost id 0 (q id)) (wM hid)
      obtain⟨h9,bd0,e0⟩:=hk pre id hid
      obtain⟨_,bd1,e1⟩:=hk (pre++[x]) id hid
      have q1:=h1.2.2 bd0 ((lV h9 ks).trans e0)
      have q3:=h3.2.2 bd1 ((lV h9 ks).trans e1)
      rw [q1,q3]
     have nFk:∀b,F b->b<W.heap.size->W3.heap[b]?=W.heap[b]?/\F b:=fun b hb hlt'=>⟨kp3.block b hlt' fun h=>by
      rcases h with h|h
      ·exact (hrk.inv.apart b h).2 hb
      ·subst h;exact nF hb,hb⟩
     have hts:∀t,Rel W3 F μ3 (lkB (gl q ks (B (pre++[x])))) (lkT T t) (a.tmps.getD t undef):=fun t=>by
      rcases tQ hTs t with h|h
      ·refine rK (μ:=μk) (σ:=lkB (gl q ks (B pre))) nFk (fun id hid=>⟨mu3 id hid,?_⟩) h (hrk.ts t)
       obtain⟨h9,bd0,e0⟩:=hk pre id hid
       exact⟨bd0,(lV h9 ks).trans e0⟩
      ·rw [h];exact .any _
     have hrJ:RS N W3 F μ3 (stL T (gl q ks (B (pre++[x])))) { a with defers:={ target:=.collected W0.heap.size,args:=#[] }::a.defers }:=by
      refine⟨hts,?_,hr.n,hinv⟩
      obtain⟨Ds,d1,d2,d3⟩:=hrk.defers
      refine⟨Ds,d1,d2,fun D hD=>?_⟩
      obtain⟨e1,e2,e3⟩:=d3 D hD
      have hDl:=(qI.1 e1).1
      refine⟨(kp3.block D hDl fun h=>?_).trans e1,e2,fun h=>?_⟩
      ·rcases h with h|h
       ·exact e3 h
       ·subst h;rw [hlk] at e1;cases e1
      ·rcases own3' D h with h|h
       ·exact e3 h
       ·omega
     have hend:=run_endRound (P:=P) none hl3
     have nO3:¬Own μ3 (lkB (gl q ks (B (pre++[x])))) (W0.heap.size+1):=fun h=>by
      rcases own3' _ h with h|h
      ·exact holk h
      ·omega
     refine⟨_,_,hend,true,rfl,⟨μ3,?_,?_,?_,hmk,?_,fun b hM hb=>?_,nO3⟩,?_⟩
     ·refine hrJ.heap (by simp) (fun b _ hb=>World.putObj_heap_other fun e=>?_) (hrJ.defers.heap fun D hD=>World.putObj_heap_other fun e=>?_)
      ·subst e
       exact hb.elim nF nO3
      ·subst e
       rw [(hrJ.defers.lt hD).1] at hl3
       cases hl3
     ·refine⟨hsk.kp.trans2 (S':=fun b=>Own μk (lkB (gl q ks (B pre))) b\/b=W0.heap.size+1) (kp3.trans2 (S':=fun b=>b=W0.heap.size+1) ⟨rfl,rfl,rfl,by simp,fun b _ h=>World.putObj_heap_other h⟩ fun g _ h=>.inr h) fun g hlt' h=>?_,fun b hb=>hb,fun b hb=>.inl hb,fun b hb=>?_⟩
      ·rcases h with h|h
       ·rcases hsk.own g h with h|h
        ·exact h
        ·omega
       ·omega
      ·rcases own3' b hb with h|h
       ·exact hsk.own b h
       ·exact .inr (by omega)
     ·exact World.putObj_heap_same (qI.1 hl3).1
     ·rw [show ∀(W:World) (l:Nat) (o:Obj),(W.putObj l o).heap.size=W.heap.size from fun _ _ _=>by simp]
      omega
     ·rcases own3' b hb with h|h
      ·exact homk b hM h
      ·have:=hMlt b hM
       omega
     ·refine (kp3.mono (S':=fun b=>¬F b/\¬M b) fun b hb h=>?_).trans2 (S':=fun b=>b=W0.heap.size+1) ⟨rfl,rfl,rfl,by simp,fun b _ h=>World.putObj_heap_other h⟩ fun g _ h=>?_
      ·rcases h with h|h
       ·exact⟨(hrk.inv.apart b h).2,fun hM=>homk b hM h⟩
       ·subst h;exact⟨nF,nM⟩
      ·subst h;exact⟨nF,nM⟩
    |_=>exact hq3.elim
   |_=>exact hq1.elim
end
theorem qg {C:Ctx}{P:Program}{f:FuncId}{fn:Func}{c:Code}{args:List AV}{Q:Exit -> St -> Prop}{N:Nat}(hf:P.funcs[f]? = some fn)(hb:fn.body = some c)(hN:fn.ntmps = N)(hlen:Nat.ble args.length N = true)
  (h:AWC C P N c Q (st0 args)) (rx:St->AV) (hq:∀e s,Q e s->(e = .normal\/e = .ret)/\m8 P fn s (rx s)) (W:World) (F:Nat->Prop) (vs:List Value) (hl:vs.length=args.length) (hv:∀(j:Nat) (x:AV) (v:Value),args[j]?=some x->vs[j]?=some v->au W F x v) (hF:∀b,F b->b<W.heap.size) (hL:kR W F) (hC:C.In W F) :
  Calls P f vs.toArray W fun e W'=>∃(v:Value) (F':Nat->Prop) (μ':Mu) (s':St) (q:Exit),e = .returned v/\Kp No W W'/\Q q s'/\Rel W' F' μ' s'.σ (rx s') v/\Inv W' F' μ' s'.σ/\(∀b,Own μ' s'.σ b->W.heap.size<=b):=by
 subst hN
 have hlen:=qW hlen
 have hi:Inv W F (fun _=>none) (fun _=>⟨0,none⟩):=⟨fun _ _ _ h=>(by cases h),fun b ⟨_,_,_,_,h,_⟩=>(by cases h),fun _ _ _ _ _ h=>(by cases h),hF,hL⟩
 have hr:RS fn.ntmps W F (fun _=>none) (st0 args) { tmps:=vs.toArray++Array.replicate (fn.ntmps-vs.toArray.size) undef,defers:=[] }:=by
  refine⟨fun t=>?_,.nil,by simp;omega,hi⟩
  show Rel W F _ _ (args.getD t (.tup [])) _
  rw [vU,Array.getElem?_append,qM]
  by_cases ht:t<args.length
  ·have h1:args[t]?=some args[t]:=qA ht
   have h2:vs[t]?=some vs[t]:=qA (by omega)
   rw [if_pos (by simp;omega),uG,h1,h2]
   exact .pure (hv t _ _ h1 h2)
  ·rw [if_neg (by simp;omega),vX (by omega)]
   have:(Array.replicate (fn.ntmps-vs.toArray.size) undef)[t-vs.toArray.size]?.getD undef=undef:=by
    rw [Array.getElem?_replicate]
    split <;> rfl
   rw [this]
   exact .pure (.tup [] [] rfl (by simp))
 refine jG hf hb (h W F _ _ hC hr) (fun e s h=>(hq e s h).1) ?_
 rintro e W' F' μ' s' a' hQ hr' hs
 obtain⟨he,hres⟩:=hq e s' hQ
 obtain⟨v,hrun,hxv⟩:=hres W' F' μ' a' hr'
 have hno:∀b,¬Own (fun _=>none) (fun _=>(⟨0,none⟩:SB)) b:=fun b ⟨_,_,_,_,h,_⟩=>(by cases h)
 have hfin:∃(v':Value) (F'':Nat->Prop) (μ'':Mu) (s'':St) (q:Exit),Ending.returned v = .returned v'/\Kp No W W'/\Q q s''/\Rel W' F'' μ'' s''.σ (rx s'') v'/\Inv W' F'' μ'' s''.σ/\(∀b,Own μ'' s''.σ b->W.heap.size<=b) :=
  ⟨v,F',μ',s',e,rfl,hs.kp.mono fun b _ hb=>(hno b hb).elim,hQ,hxv,hr'.inv,fun b hb=>(hs.own b hb).resolve_left (hno b)⟩
 exact⟨_,hrun,hfin⟩
end Go.Proofs.YtdidjpohnopihaaGreat.Sm
end
section
namespace Go.Proofs.YtdidjpohnopihaaGreat
open Go.RowKit Go.WideShapes Go.ChangeShapes Go.Deep
def iO {α:Type}(P:Program)(t:TypeId)(R:Rep α):Prop :=
 ∀(H:Type) (enc:TypeId × Value->H) (w:World) (base:Nat) (spare:Nat->Bool) (held:Bool) (fuel:Nat) (cs:List Value) (x:DataW H × List MemPlace),
  DataW.trod enc P w base spare held fuel t cs=some x->∃a:α,R.rel w (fun b=>b<w.heap.size) a cs
theorem eW {α:Type}{r:α->List Value->Prop}{n:Nat}(hn:∀x c,r x c->c.length=n)(w:World)(b off:Nat):∀(len:Nat),
  (∀i,i<len->∃x c,r x c/\∀j u,c[j]?=some u->w.cell? ⟨b,off+(i*n+j),none⟩=some u) ->
  ∃xs cells,xs.length=len/\eo r xs cells/\∀j u,cells[j]?=some u->w.cell? ⟨b,off+j,none⟩=some u
 |0,_=>⟨[],[],rfl,rfl,by simp⟩
 |len+1,h=>by
  obtain⟨xs,cells,h1,h2,h3⟩:=eW hn w b off len fun i hi=>h i (by omega)
  obtain⟨x,c,hr,hc⟩:=h len (by omega)
  refine⟨xs++[x],cells++c,by simp [h1],h2.snoc hr,fun j u hu=>?_⟩
  have hl:=h2.length hn
  rw [h1] at hl
  rw [vZ] at hu
  split at hu
  ·exact h3 j u hu
  ·have:=hc _ u hu
   rwa [hl,show off+(len*n+(j-len*n))=off+j by omega] at this
theorem iO.slice {α:Type}{P:Program}{t e:TypeId}{R:Rep α}(hR:iO P e R)(ht:P.underlying t=some (.slice e))(hn:P.cellsOf e=R.n)(h0:0<R.n):iO P t R.slice:=by
 intro H enc w base spare held fuel cs x hx
 rcases open_slice ht hx with⟨rfl,_⟩|⟨a,len,cap,m,n,D,Pl,rfl,_,hlc,hcm,hm,_,hel⟩
 ·exact⟨[],_,rfl,bb.nil _ _ _⟩
 ·have hlm:len<=m:=by rw [hm];split <;> omega
  by_cases hp:0<len
  ·have hspot:a = ⟨a.block,a.off,none⟩ /\ a.block < w.heap.size := by
    obtain⟨cs',hc,_⟩:=hel 0 (by omega)
    obtain⟨_,hl,hat⟩:=World.cells?_some hc
    have h1:=hat 0 (by rw [hn];exact h0)
    have e:(a.add (0*P.cellsOf e)).add 0=a:=by simp [Addr.add]
    rw [e,qA (by rw [hl,hn];exact h0)] at h1
    refine⟨?_,World.block_lt_of_cell? w a h1⟩
    unfold World.cell? at h1
    split at h1
    ·split at h1
     ·cases h1
     ·rename_i hs
      obtain⟨ab,ao,asp⟩:=a
      cases asp with
      |none=>rfl
      |some k=>simp at hs
    ·cases h1
   obtain⟨xs,cells,h1,h2,h3⟩:=eW (r:=R.rel w (fun b=>b<w.heap.size)) (n:=R.n) (fun _ _=>R.len) w a.block a.off len fun i hi=>by
    obtain⟨cs',hc,ht'⟩:=hel i (by omega)
    obtain⟨y,hy⟩:=hR H enc w base spare held n cs' _ ht'
    obtain⟨_,hl,hat⟩:=World.cells?_some hc
    refine⟨y,cs',hy,fun j u hu=>?_⟩
    have hj:j<P.cellsOf e:=by have:=(qD.1 hu).1;omega
    have:=hat j hj
    rw [hu,hn,hspot.1] at this
    rw [show ((⟨a.block,a.off,none⟩:Addr).add (i*R.n)).add j=⟨a.block,a.off+(i*R.n+j),none⟩ by
     unfold Addr.add
     by_cases h1:i*R.n=0 <;> by_cases h2:j=0 <;> simp [h1,h2,Nat.add_assoc]] at this
    exact this
   exact⟨xs,_,rfl,some a,cap,by rw [h1],by omega,hcm,fun _=>⟨a.block,a.off,by rw [<- hspot.1],hspot.2,hspot.2,cells,h2,h3⟩⟩
  ·obtain rfl:len=0:=by omega
   exact⟨[],_,rfl,some a,cap,rfl,qR _,hcm,fun h=>absurd h (Nat.lt_irrefl _)⟩
theorem cD {P:Program}{t:TypeId}{fs:Array Field}(ht:P.underlying t=some (.struct fs)){H:Type}{enc:TypeId × Value->H}{w:World}{base:Nat}{spare:Nat->Bool}{held:Bool}{fuel:Nat}{cs:List Value}{x:DataW H × List MemPlace}
  (hx:DataW.trod enc P w base spare held fuel t cs=some x):∃m,cs.length=P.cellsOf t/\∀(j ty off n:Nat),(fs[j]?).map (fun f=>(f.type,f.offset))=some (ty,off)->P.cellsOf ty=n ->
   ∃y,DataW.trod enc P w base spare held m ty ((cs.drop off).take n)=some y:=by
 obtain⟨xs,n,_,_,hl,hxs,hf⟩:=DataW.trod_struct ht hx
 refine⟨n,hl,fun j ty off k hj hk=>?_⟩
 cases hfj:fs[j]? with
 |none=>rw [hfj] at hj;cases hj
 |some f=>
  rw [hfj] at hj
  simp only [Option.map_some,qU,vC] at hj
  have h:=hf j f hfj
  rw [hj.1,hj.2,hk] at h
  have hlt:j<xs.length:=by rw [hxs];exact (qI.1 hfj).1
  exact⟨xs[j],by rw [h,qA hlt]⟩
theorem GI {n:Int}(h:(Lit.int .u64 n).wf=true):∃x:UInt64,n=x.toNat:=by
 have h:0<=n/\n<=18446744073709551615:=by simpa [Lit.wf,IntKind.min,IntKind.max,IntKind.signed,IntKind.bits] using h
 exact⟨UInt64.ofNat n.toNat,by rw [<- xU (by omega)];omega⟩
section
variable {H:Type} {enc:TypeId × Value -> H} {P:Program}
theorem oH {f:Func}{s:ChangeSpec}{apart fresh handsOn again:Bool}{W W':World}{args:Array Value}{v:Value}{ds gs:List (DataW H)}{before pa pv:List MemPlace}
  (hW:DataW.Whole enc P f.params.toList s.vars apart W args.toList ds gs before)
  (hres:∀(b:Nat) (sp:Nat->Bool) (hd:Bool),DataW.TrodAll enc P W' b sp hd f.resultTypes.toList (v.resultList f.resultTypes.size) (s.fn H (ds++gs)).results [])
  (hargs:∀sp:Nat->Bool,(∀p∈before,sp p.block=true)->DataW.TrodAll enc P W' 0 sp true f.params.toList args.toList (s.fn H (ds++gs)).args pa)
  (hvars:∀sp:Nat->Bool,(∀p∈before,sp p.block=true)->DataW.TrodVars enc P W' sp s.vars (s.fn H (ds++gs)).vars pv)
  (hps:before=pa++pv) (hb:Below W.heap.size W W')
  (hok:∀(j:Nat) (t:TypeId) (r:Value),f.resultTypes[j]?=some t->(v.resultList f.resultTypes.size)[j]?=some r->Value.okWide P W' .any 0 t r) :
  s.post enc P f apart fresh handsOn again W args v W':=by
 have hlt:∀p∈before,p.block<W.heap.size:=fun p hp=>hW.lt p hp
 have hold:∀p∈before,(fun b=>decide (b<W.heap.size)) p.block=true:=fun p hp=>by simpa using hlt p hp
 refine⟨ds,gs,before,[],pa,pv,hW,hres _ _ _,hargs _ hold,hvars _ hold,World.keptBut_mono (fun p hp=>⟨hp,?_⟩) (hb.frame (·∈before)),fun _=>?_⟩
 ·rw [hps,vB] at hp
  exact Or.inr hp
 ·obtain⟨_,_,_,_,_,hz,hn⟩:=hW
  refine⟨hok,_,_,([]++pa)++pv,⟨[]++pa,pv,trodAll_append (hargs _ (fun _ _=>rfl)) (hres _ _ _),hvars _ (fun _ _=>rfl),rfl,?_,?_⟩,?_⟩
  ·intro b off hp
   have hin:MemPlace.cell b off∈before:=by rw [hps];simpa using hp
   rw [hb.frozen (hlt _ hin)]
   exact hz b off hin
  ·intro ha
   have:=hn ha
   rw [hps] at this
   simpa using this
  ·intro p hp _
   rw [hps]
   simpa using hp
theorem pf (hl:laidOutB P=true){W W':World}(hb:Below W.heap.size W W'){sp':Nat->Bool}:∀{ts:List TypeId} {vs:List Value} {ds:List (DataW H)} {ps:List MemPlace},
  (∀t∈ts,P.readableRec t=true/\t<P.types.size)->DataW.TrodAll enc P W 0 (fun _=>true) true ts vs ds ps->(∀p∈ps,p.block<W.heap.size)->(∀p∈ps,sp' p.block=true)->DataW.TrodAll enc P W' 0 sp' true ts vs ds ps
 |[],[],[],_,_,h,_,_=>h
 |t::ts,v::vs,d::ds,ps,hr,h,hlt,hs=>by
  obtain⟨p,q,h1,h2,rfl⟩:=h
  refine⟨p,q,WideElems.Trod_stays hl (hr t (by simp)).1 (hr t (by simp)).2 h1 (fun x hx=>hb.same (hlt x (by simp [hx]))) (fun x hx=>hs x (by simp [hx])),?_,rfl⟩
  exact pf hl hb (fun t ht=>hr t (by simp [ht])) h2 (fun x hx=>hlt x (by simp [hx])) (fun x hx=>hs x (by simp [hx]))
end
theorem law_post {H:Type}{enc:TypeId × Value->H}{P:Program}{F:Nat}{fn:Func}{s:ChangeSpec}(hl:laidOutB P=true)(hv:s.vars=[])(hrt:∃b,fn.resultTypes = #[b]/\P.underlying b=some .bool)
  (hr:∀t∈fn.params.toList,P.readableRec t=true/\t<P.types.size) {W:World} {args:Array Value} {ds gs:List (DataW H)} {before:List MemPlace}
  (hs:(s.fn H ds).results=[.lit (.bool true)]/\(s.fn H ds).args=ds/\(s.fn H ds).vars=[])
  (hW:DataW.Whole enc P fn.params.toList s.vars false W args.toList ds gs before)
  (hcalls:Calls P F args W fun e W'=>e = .returned (.bool true)/\Kp No W W') :
  Calls P F args W fun e W'=>∃v,e = .returned v/\s.post enc P fn false true false false W args v W':=by
 refine hcalls.mono fun e W' ⟨he,hk⟩=>⟨.bool true,he,?_⟩
 have hb:Below W.heap.size W W':=hk.below (qJ _) fun k _ h=>h
 have hlt:∀p∈before,p.block<W.heap.size:=fun p hp=>hW.lt p hp
 have hW0:=hW
 obtain⟨p,q,hA,hV,hpq,hz,hn⟩:=hW0
 rw [hv] at hV
 obtain⟨rfl,rfl⟩:=trodVars_none hV
 obtain⟨b,hb1,hb2⟩:=hrt
 rw [uA] at hpq
 subst hpq
 refine oH (pa:=before) (pv:=[]) hW (fun _ _ _=>?_) (fun sp hsp=>?_) (fun _ _=>?_) (by simp) hb ?_
 ·rw [uA,hs.1,hb1]
  exact trodAll_mk1 (shut_bool hb2 _)
 ·rw [uA,hs.2.1]
  exact pf hl hb hr hA hlt hsp
 ·rw [uA,hs.2.2,hv]
  rfl
 ·rw [hb1]
  intro j t r hj hr
  cases j with
  |zero=>
   have e1:b=t:=by simpa using hj
   have e2:Value.bool true=r:=by simpa [Value.resultList] using hr
   rw [<- e1,<- e2]
   exact okWide_bool_mk hb2 _
  |succ j=>simp at hj
end Go.Proofs.YtdidjpohnopihaaGreat
end
section
section
namespace Go.Proofs.YtdidjpohnopihaaGreat.Sm
open Go.RowKit
structure Enc {α:Type}(R:Rep α)(enc:α->List AV):Prop where
 len:∀x,(enc x).length=R.n
 one:∀x,∀y∈enc x,y.one=true
 to:∀{W:World} {F:Nat->Prop} {x:α} {cs:List Value},R.rel W F x cs->∀(j:Nat) (y:AV) (u:Value),(enc x)[j]?=some y->cs[j]?=some u->au W F y u
 of:∀{W:World} {F:Nat->Prop} {x:α} {cs:List Value},cs.length=R.n->(∀(j:Nat) (y:AV) (u:Value),(enc x)[j]?=some y->cs[j]?=some u->au W F y u)->R.rel W F x cs
theorem aD {W:World}{F:Nat->Prop}{x:AV}{v u:Value}(h:x.val?=some u)(hr:au W F x v):v=u:=ug (μ:=fun _=>none) (σ:=fun _=>⟨0,none⟩) h (.pure hr)
theorem od {α:Type}{r:α->List Value->Prop}{g:Nat->List Value}:∀(xs:List α) (k0:Nat),(∀(k:Nat) (x:α),xs[k]?=some x->r x (g (k0+k)))->eo r xs ((List.range' k0 xs.length).flatMap g)
 |[],k0,_=>rfl
 |x::xs,k0,h=>by
  refine⟨g k0,(List.range' (k0+1) xs.length).flatMap g,by simp [List.range'_succ],h 0 x rfl,od xs (k0+1) fun k y hk=>?_⟩
  have:=h (k+1) y (by simpa using hk)
  rwa [show k0+(k+1)=k0+1+k by omega] at this
theorem lL {g:Nat->List Value}{n:Nat}(hg:∀k,(g k).length=n):∀(m k0 j:Nat) (u:Value),((List.range' k0 m).flatMap g)[j]?=some u->∃k i,k<m/\i<n/\j=k*n+i/\(g (k0+k))[i]?=some u
 |0,k0,j,u,h=>by simp at h
 |m+1,k0,j,u,h=>by
  rw [List.range'_succ,List.flatMap_cons,vZ,hg] at h
  split at h
  ·rename_i hlt
   exact⟨0,j,by omega,hlt,by simp,by simpa using h⟩
  ·rename_i hge
   obtain⟨k,i,h1,h2,h3,h4⟩:=lL hg m (k0+1) (j-n) u h
   refine⟨k+1,i,by omega,h2,by rw [Nat.add_mul];omega,?_⟩
   rwa [show k0+(k+1)=k0+1+k by omega]
section
variable {α:Type} {R:Rep α} {enc:α -> List AV} {W:World} {F:Nat -> Prop} {xs:List α} {v:Value}
theorem Enc.sl (E:Enc R enc)(h:bb R W F xs v):au W F (.sl (xs.map enc)) v:=by
 obtain⟨A,c,rfl,hc,hm,h3⟩:=h
 have hlen:(xs.map enc).length=xs.length:=by simp
 have get:∀(k:Nat) (cs:List AV),(xs.map enc)[k]?=some cs->∃x,xs[k]?=some x/\enc x=cs:=fun k cs hk=>by
  rw [qF] at hk
  cases hx:xs[k]? with
  |none=>rw [hx] at hk;cases hk
  |some x=>rw [hx] at hk;exact⟨x,rfl,by simpa using hk⟩
 by_cases hp:0<xs.length
 ·obtain⟨b,off,rfl,hF,hb,cells,ha,hcell⟩:=h3 hp
  have key := au.sl (W := W) (F := F) (xs.map enc) (some ⟨b,off,none⟩) c R.n b off (fun k j=>cells.getD (k * R.n + j) undef) (by simpa using hc) hm (fun _=>⟨rfl,hF,hb⟩) (fun k cs hk=>by
    obtain⟨x,_,rfl⟩:=get k cs hk
    exact E.len x) (fun k cs j y hk hj=>by
    obtain⟨x,_,rfl⟩:=get k cs hk
    exact E.one x y (qN hj)) (fun k cs j y hk hj=>?_) (fun k cs j y hk hj=>?_)
  ·rw [hlen] at key
   exact key
  ·obtain⟨x,hx,rfl⟩:=get k cs hk
   obtain⟨cs,hr,hg⟩:=ha.get (fun _ _=>R.len) hx
   obtain⟨u,hu⟩:∃u,cs[j]?=some u:=⟨_,qA (by rw [R.len hr,<- E.len x];exact (qD.1 hj).1)⟩
   have:cells.getD (k*R.n+j) undef=u:=by rw [qM,hg j u hu];rfl
   rw [this]
   exact E.to hr j y u hj hu
  ·obtain⟨x,hx,rfl⟩:=get k cs hk
   obtain⟨cs,hr,hg⟩:=ha.get (fun _ _=>R.len) hx
   obtain⟨u,hu⟩:∃u,cs[j]?=some u:=⟨_,qA (by rw [R.len hr,<- E.len x];exact (qD.1 hj).1)⟩
   have:cells.getD (k*R.n+j) undef=u:=by rw [qM,hg j u hu];rfl
   rw [this]
   exact hcell _ u (hg j u hu)
 ·obtain rfl:xs=[]:=List.eq_nil_of_length_eq_zero (by omega)
  exact .sl [] A c 0 0 0 (fun _ _=>undef) (qR _) hm (fun h=>absurd h (Nat.lt_irrefl _)) (by simp) (by simp) (by simp) (by simp)
theorem Enc.slice_of (E:Enc R enc)(h0:0<R.n)(h:au W F (.sl (xs.map enc)) v):bb R W F xs v:=by
 cases h with
 |sl _ A c m b off cell hc hm hA hl hone hr hw=>
  have hlen:(xs.map enc).length=xs.length:=by simp
  rw [hlen] at hc hA ⊢
  refine⟨A,c,rfl,hc,hm,fun hp=>?_⟩
  obtain⟨rfl,hF,hb⟩:=hA hp
  have get:∀(k:Nat) (x:α),xs[k]?=some x->(xs.map enc)[k]?=some (enc x):=fun k x hk=>by rw [qF,hk];rfl
  have hmn:m=R.n:=by
   have h1:=get 0 _ (qA hp)
   rw [<- hl 0 _ h1,E.len]
  subst hmn
  let g:Nat->List Value:=fun k=>(List.range R.n).map (cell k)
  have hg:∀k,(g k).length=R.n:=fun k=>by simp [g]
  have gget:∀(k i:Nat),i<R.n->(g k)[i]?=some (cell k i):=fun k i hi=>by simp [g,hi]
  refine⟨b,off,rfl,hF,hb,(List.range' 0 xs.length).flatMap g,od xs 0 fun k x hk=>?_,fun j u hj=>?_⟩
  ·rw [vN]
   refine E.of (hg k) fun j y u hj hu=>?_
   have hlt:j<R.n:=by rw [<- E.len x];exact (qD.1 hj).1
   rw [gget k j hlt] at hu
   obtain rfl:=qB hu
   exact hr k _ j y (get k x hk) hj
  ·obtain⟨k,i,h1,h2,rfl,h4⟩:=lL hg _ _ _ _ hj
   rw [vN,gget k i h2] at h4
   obtain rfl:=qB h4
   obtain⟨x,hx⟩:∃x,xs[k]?=some x:=⟨_,qA h1⟩
   exact hw k _ i _ (get k x hx) (qA (by rw [E.len];exact h2))
theorem Enc.slice (E:Enc R enc)(h0:0<R.n):Enc R.slice (fun l=>[.sl (l.map enc)]):=by
 refine⟨fun _=>rfl,fun x y hy=>?_,fun {W F x cs} hr j y u hj hu=>?_,fun {W F x cs} hl hp=>?_⟩
 ·obtain rfl:=qP.1 hy
  rfl
 ·obtain⟨v,rfl,hs⟩:=hr
  cases j with
  |zero=>
   obtain rfl:=qB hj
   obtain rfl:=qB hu
   exact E.sl hs
  |succ j=>simp at hj
 ·obtain⟨u,rfl⟩:=List.length_eq_one_iff.1 (show cs.length=1 from hl)
  exact⟨u,rfl,E.slice_of h0 (hp 0 _ u rfl rfl)⟩
end
theorem C4 {cs:List AV}(h:cs.all AV.one=true):∀(j:Nat) (x:AV),cs[j]?=some x->x.one=true:=fun j x hj=>qV.1 h x (qN hj)
section
variable {P:Program} {f:FuncId} {x y:AV} {r:AV}
theorem aa.mk2 (hf : ∃ fn c, P.funcs[f]? = some fn /\ fn.body = some c /\ (fn.name == "runtime.NumGoroutine") = false) (h : ∀ (W : World) (F : Nat -> Prop) (v u : Value), au W F x v -> au W F y u -> (∀ b, F b -> b < W.heap.size) ->
  Calls P f #[v,u] W fun e W'=>∃v,e = .returned v/\Kp No W W'/\au W' (fun b=>F b\/(W.heap.size<=b/\b<W'.heap.size)) r v):aa P f [x,y] r :=
 ⟨hf,fun W F vs hl hv hF _=>by
  match vs,hl with
  |[v,u],_=>exact h W F v u (hv 0 _ _ rfl rfl) (hv 1 _ _ rfl rfl) hF⟩
end
open Go.RowKit Go.WideShapes Go.ChangeShapes Go.Deep
structure PWs (W:World)(F:Nat->Prop)(xs:List AV)(cs:List Value):Prop where
 len:cs.length=xs.length
 one:∀(j:Nat) (x:AV),xs[j]?=some x->x.one=true
 rel:∀(j:Nat) (x:AV) (v:Value),xs[j]?=some x->cs[j]?=some v->au W F x v
theorem au.one_cell {W:World}{F:Nat->Prop}{x:AV}{v:Value}(h:au W F x v)(h1:x.one=true):v.oneCell'=true:=by
 cases h <;> first|rfl|exact h1|(simp [AV.one] at h1;done)
theorem au.widen {W:World}{F F':Nat->Prop}{x:AV}{v:Value}(h:au W F x v)(hF:∀b,b<W.heap.size->F b->F' b):au W F' x v:=h.keep (fun _ _ _=>rfl) fun b hb hlt=>hF b hlt hb
theorem PWs.single {W:World}{F:Nat->Prop}{x:AV}{v:Value}(h:au W F x v)(h1:x.one=true):PWs W F [x] [v]:=by
 refine⟨rfl,fun j y hj=>?_,fun j y u hj hu=>?_⟩
 ·cases j with
  |zero=>obtain rfl:=qB hj;exact h1
  |succ j=>simp at hj
 ·cases j with
  |zero=>obtain rfl:=qB hj;obtain rfl:=qB hu;exact h
  |succ j=>simp at hj
theorem PWs.nil {W:World}{F:Nat->Prop}{cs:List Value}{n:Nat}(h:cs.length=n):PWs W F [] (cs.drop n) :=
 ⟨by simp [h],fun j x hj=>by simp at hj,fun j x v hj _=>by simp at hj⟩
theorem PWs.join {W:World}{F:Nat->Prop}{xs ys:List AV}{cs:List Value}{o n:Nat}(h:PWs W F xs ((cs.drop o).take n))(hn:xs.length=n)(h':PWs W F ys (cs.drop (o+n))):PWs W F (xs++ys) (cs.drop o):=by
 have hl:=h.len
 have hl':=h'.len
 rw [vG,vW] at hl
 rw [vW] at hl'
 refine⟨by simp only [vW,qK];omega,fun j x hj=>?_,fun j x v hj hv=>?_⟩
 ·rw [vZ] at hj
  split at hj
  ·exact h.one j x hj
  ·exact h'.one _ x hj
 ·rw [vZ] at hj
  split at hj
  ·rename_i hlt
   refine h.rel j x v hj ?_
   rw [uF,if_pos (by omega)]
   exact hv
  ·rename_i hge
   refine h'.rel _ x v hj ?_
   rw [uC] at hv ⊢
   rw [<- hv]
   congr 1
   omega
theorem PWs.all {W:World}{F:Nat->Prop}{xs:List AV}{cs:List Value}(h:PWs W F xs (cs.drop 0)):PWs W F xs cs:=by rwa [uR] at h
structure bz {α:Type}(P:Program)(t:TypeId)(n:Nat)(enc:α->List AV):Prop where
 len:∀a,(enc a).length=n
 one:∀a,∀y∈enc a,y.one=true
 read:∀(H:Type) (e:TypeId × Value->H) (w:World) (base:Nat) (spare:Nat->Bool) (held:Bool) (fuel:Nat) (cs:List Value) (x:DataW H × List MemPlace),
  DataW.trod e P w base spare held fuel t cs=some x->∃a:α,PWs w (fun b=>b<w.heap.size) (enc a) cs
def avR {α:Type}(n:Nat)(enc:α->List AV)(hn:∀a,(enc a).length=n)(h1:∀a,∀y∈enc a,y.one=true):Rep α where
 n:=n
 rel:=fun W F x cs=>PWs W F (enc x) cs
 len:=fun h=>by rw [h.len];exact hn _
 one:=fun {w F x cs} h u hu=>by
  obtain⟨j,hj⟩:=List.getElem?_of_mem hu
  obtain⟨y,hy⟩:∃y,(enc x)[j]?=some y:=⟨_,qA (by rw [<- h.len];exact (qD.1 hj).1)⟩
  exact (h.rel j y u hy hj).one_cell (h.one j y hy)
 keep:=fun h hk=>⟨h.len,h.one,fun j x v hj hv=>(h.rel j x v hj hv).keep hk fun b hb _=>hb⟩
 mono:=fun h hF=>⟨h.len,h.one,fun j x v hj hv=>(h.rel j x v hj hv).widen hF⟩
theorem rf {α:Type}{n:Nat}{enc:α->List AV}(hn:∀a,(enc a).length=n)(h1:∀a,∀y∈enc a,y.one=true):Enc (avR n enc hn h1) enc :=
 ⟨hn,h1,fun h j y u hj hu=>h.rel j y u hj hu,fun {W F x cs} hl h=>⟨by rw [hl,hn];rfl,fun j y hj=>h1 x y (qN hj),fun j y v hj hv=>h j y v hj hv⟩⟩
section
variable {P:Program} {t:TypeId}
theorem bz.readable {α:Type}{n:Nat}{enc:α->List AV}(h:bz P t n enc):iO P t (avR n enc h.len h.one):=fun H e w base spare held fuel cs x hx=>h.read H e w base spare held fuel cs x hx
theorem bz.of {α:Type}{R:Rep α}{enc:α->List AV}(E:Enc R enc)(h:iO P t R):bz P t R.n enc :=
 ⟨E.len,E.one,fun H e w base spare held fuel cs x hx=>by
  obtain⟨a,ha⟩:=h H e w base spare held fuel cs x hx
  exact⟨a,by rw [R.len ha,E.len],fun j y hj=>E.one a y (qN hj),fun j y v hj hv=>E.to ha j y v hj hv⟩⟩
theorem bz.slice {α:Type}{e:TypeId}{n:Nat}{enc:α->List AV}(h:bz P e n enc)(ht:P.underlying t=some (.slice e))(hn:P.cellsOf e=n)(h0:0<n):bz P t 1 (fun l:List α=>[.sl (l.map enc)]) :=
 .of (R:=(avR n enc h.len h.one).slice) ((rf h.len h.one).slice h0) (h.readable.slice ht hn h0)
theorem bz.u64 (ht:P.underlying t=some (.int .u64)):bz P t 1 (fun x:UInt64=>[.u x]) :=
  ⟨fun _=>rfl,fun _ y hy=>by obtain rfl:=qP.1 hy;rfl,fun H e w base spare held fuel cs x hx=>by
    obtain⟨n,rfl,_,hw⟩:=DataW.trod_int ht hx
    obtain⟨y,rfl⟩:=GI hw
    exact⟨y,.single (.u _) rfl⟩⟩
theorem bz.bool (ht:P.underlying t=some .bool):bz P t 1 (fun x:Bool=>[.b x]) :=
  ⟨fun _=>rfl,fun _ y hy=>by obtain rfl:=qP.1 hy;rfl,fun H e w base spare held fuel cs x hx=>by
    obtain⟨b,rfl,_⟩:=DataW.trod_bool ht hx
    exact⟨b,.single (.b _) rfl⟩⟩
theorem bz.part {α:Type}{ty n off:Nat}{enc:α->List AV}(h:bz P ty n enc){H:Type}{e:TypeId × Value->H}{w:World}{base:Nat}{spare:Nat->Bool}{held:Bool}{cs:List Value}{m:Nat}
  (hp:∃y,DataW.trod e P w base spare held m ty ((cs.drop off).take n)=some y):∃a:α,PWs w (fun b=>b<w.heap.size) (enc a) ((cs.drop off).take n):=by
 obtain⟨y,hy⟩:=hp
 exact h.read H e w base spare held m _ y hy
theorem tR {n:Nat}{el:TypeId}(ht:P.underlying t=some (.array n el)){H:Type}{e:TypeId × Value->H}{w:World}{base:Nat}{spare:Nat->Bool}{held:Bool}{fuel:Nat}{cs:List Value}{x:DataW H × List MemPlace}
  (hx:DataW.trod e P w base spare held fuel t cs=some x):∃m,cs.length=P.cellsOf t/\∀(j off k:Nat),j<n->P.cellsOf el=k->j*k=off->∃y,DataW.trod e P w base spare held m el ((cs.drop off).take k)=some y:=by
 obtain⟨xs,m,_,_,hl,hxs,hf⟩:=DataW.trod_array ht hx
 refine⟨m,hl,fun j off k hj hk ho=>?_⟩
 have h:=hf j hj
 subst hk ho
 exact⟨xs[j]'(by omega),by rw [h,qA (by omega)]⟩
variable {H:Type} {e:TypeId × Value -> H} {W:World} {base b0:Nat} {spare:Nat -> Bool} {held:Bool} {v:Value} {d:DataW H} {p:List MemPlace}
theorem bz.arg_struct {α:Type}{n:Nat}{enc:α->List AV}(h:bz P t n enc){fs:Array Field}(ht:P.underlying t=some (.struct fs))(ho:Value.okWide P W .any b0 t v)(hd:DataW.Trod e P W base spare held t v d p) :
  ∃a:α,au W (fun b=>b<W.heap.size) (.agg (enc a)) v:=by
 obtain⟨cs,rfl,hs⟩:=okWide_struct ht ho
 obtain⟨fuel,hf⟩:=hd
 obtain⟨a,ha⟩:=h.read H e W base spare held fuel _ _ hf
 have hc:(Value.cells (.agg cs)).toList=cs.toList:=by simp [Value.cells]
 rw [hc] at ha
 refine⟨a,?_⟩
 have:=au.agg (W:=W) (F:=fun b=>b<W.heap.size) (enc a) cs.toList ha.len ha.one ha.rel
 simpa using this
theorem bz.arg_one {α:Type}{g:α->AV}(h:bz P t 1 (fun a=>[g a]))(hc:v.cells.toList=[v])(hd:DataW.Trod e P W base spare held t v d p) :
  ∃a:α,au W (fun b=>b<W.heap.size) (g a) v:=by
 obtain⟨fuel,hf⟩:=hd
 obtain⟨a,ha⟩:=h.read H e W base spare held fuel _ _ hf
 rw [hc] at ha
 exact⟨a,ha.rel 0 _ v rfl rfl⟩
theorem bz.arg_slice {α:Type}{el:TypeId}{g:α->AV}(h:bz P t 1 (fun a=>[g a]))(ht:P.underlying t=some (.slice el))(ho:Value.okWide P W .any b0 t v)(hd:DataW.Trod e P W base spare held t v d p) :
  ∃a:α,au W (fun b=>b<W.heap.size) (g a) v:=by
 obtain⟨a,len,cap,rfl⟩:=okWide_slice ht ho
 exact h.arg_one (by simp [Value.cells]) hd
theorem aa.law {f:FuncId}{args:List AV}{vs:List Value}(h:aa P f args (.b true))(hl:vs.length=args.length)
  (hv:∀(j:Nat) (x:AV) (v:Value),args[j]?=some x->vs[j]?=some v->au W (fun b=>b<W.heap.size) x v) (hL:kR W (fun b=>b<W.heap.size):=by exact eT _ _):Calls P f vs.toArray W fun e W'=>e = .returned (.bool true)/\Kp No W W':=by
 refine (h.calls W (fun b=>b<W.heap.size) vs hl hv (fun _ hb=>hb) hL).mono ?_
 rintro e W' ⟨v,rfl,hk,hr⟩
 cases hr
 exact⟨rfl,hk⟩
end
theorem ay {k n:Nat}(h:k<n)(hn:n<=9223372036854775807):AV.i .i64 (IntKind.i64.wrap ((k:Int)+1)) = .i .i64 ((k+1:Nat):Int):=by
 rw [show IntKind.i64.wrap ((k:Int)+1)=(k:Int)+1 by rw [kA0];omega]
 rfl
end Go.Proofs.YtdidjpohnopihaaGreat.Sm
end
end
section
namespace Go.Proofs.YtdidjpohnopihaaGreat.Sm
open Go.RowKit
def tyT:TT:=[(1,⟨.func,1,8,[.raw .nilFunc]⟩),
 (2,⟨(.int .i64),1,8,[.i .i64 0]⟩),
 (3,⟨(.int .i64),1,8,[.i .i64 0]⟩),
 (4,⟨.bool,1,1,[.b false]⟩),
 (5,⟨(.int .u8),1,1,[.y 0]⟩),
 (6,⟨(.int .u8),1,1,[.y 0]⟩),
 (7,⟨(.strct [(2,0),(3,1),(4,2),(6,3)]),4,24,[.i .i64 0,.i .i64 0,.b false,.y 0]⟩),
 (8,⟨(.strct [(2,0),(3,1),(4,2),(6,3)]),4,24,[.i .i64 0,.i .i64 0,.b false,.y 0]⟩),
 (9,⟨.str,1,16,[.s []]⟩),
 (10,⟨.str,1,16,[.s []]⟩),
 (11,⟨.str,1,16,[.s []]⟩),
 (12,⟨(.int .u64),1,8,[.u 0]⟩),
 (13,⟨(.strct [(9,0),(12,1)]),2,24,[.s [],.u 0]⟩),
 (14,⟨(.strct [(9,0),(12,1)]),2,24,[.s [],.u 0]⟩),
 (15,⟨.ptr,1,8,[.raw (.pointer none)]⟩),
 (16,⟨.ptr,1,8,[.raw (.pointer none)]⟩),
 (17,⟨.ptr,1,8,[.raw (.pointer none)]⟩),
 (18,⟨(.strct [(17,0)]),1,8,[.raw (.pointer none)]⟩),
 (19,⟨(.strct [(17,0)]),1,8,[.raw (.pointer none)]⟩),
 (21,⟨(.int .i32),1,4,[.i .i32 0]⟩),
 (22,⟨(.slice 112),1,24,[.raw (.slice none 0 0)]⟩),
 (23,⟨(.strct [(22,0)]),1,24,[.raw (.slice none 0 0)]⟩),
 (24,⟨(.strct [(22,0)]),1,24,[.raw (.slice none 0 0)]⟩),
 (25,⟨(.slice 105),1,24,[.raw (.slice none 0 0)]⟩),
 (26,⟨(.slice 107),1,24,[.raw (.slice none 0 0)]⟩),
 (27,⟨(.strct [(3,0),(25,1),(26,2)]),3,56,[.i .i64 0,.raw (.slice none 0 0),.raw (.slice none 0 0)]⟩),
 (28,⟨(.strct [(3,0),(25,1),(26,2)]),3,56,[.i .i64 0,.raw (.slice none 0 0),.raw (.slice none 0 0)]⟩),
 (29,⟨(.slice 52),1,24,[.raw (.slice none 0 0)]⟩),
 (30,⟨(.strct [(24,0),(28,1),(29,4)]),5,104,[.raw (.slice none 0 0),.i .i64 0,.raw (.slice none 0 0),.raw (.slice none 0 0),.raw (.slice none 0 0)]⟩),
 (31,⟨(.strct [(24,0),(28,1),(29,4)]),5,104,[.raw (.slice none 0 0),.i .i64 0,.raw (.slice none 0 0),.raw (.slice none 0 0),.raw (.slice none 0 0)]⟩),
 (32,⟨(.int .u64),1,8,[.u 0]⟩),
 (33,⟨(.strct [(32,0),(32,1)]),2,16,[.u 0,.u 0]⟩),
 (34,⟨(.strct [(32,0),(32,1)]),2,16,[.u 0,.u 0]⟩),
 (35,⟨(.strct [(34,0),(34,2)]),4,32,[.u 0,.u 0,.u 0,.u 0]⟩),
 (36,⟨(.strct [(34,0),(34,2)]),4,32,[.u 0,.u 0,.u 0,.u 0]⟩),
 (37,⟨.ptr,1,8,[.raw (.pointer none)]⟩),
 (38,⟨(.int .i64),1,8,[.i .i64 0]⟩),
 (39,⟨(.strct [(3,0),(3,1)]),2,16,[.i .i64 0,.i .i64 0]⟩),
 (40,⟨(.strct [(3,0),(3,1)]),2,16,[.i .i64 0,.i .i64 0]⟩),
 (41,⟨(.slice 79),1,24,[.raw (.slice none 0 0)]⟩),
 (42,⟨(.strct [(3,0),(40,1),(41,3)]),4,48,[.i .i64 0,.i .i64 0,.i .i64 0,.raw (.slice none 0 0)]⟩),
 (43,⟨(.strct [(3,0),(40,1),(41,3)]),4,48,[.i .i64 0,.i .i64 0,.i .i64 0,.raw (.slice none 0 0)]⟩),
 (44,⟨(.strct [(3,0),(38,1),(3,2),(40,3),(34,5),(43,7)]),11,104,[.i .i64 0,.i .i64 0,.i .i64 0,.i .i64 0,.i .i64 0,.u 0,.u 0,.i .i64 0,.i .i64 0,.i .i64 0,.raw (.slice none 0 0)]⟩),
 (45,⟨(.strct [(3,0),(38,1),(3,2),(40,3),(34,5),(43,7)]),11,104,[.i .i64 0,.i .i64 0,.i .i64 0,.i .i64 0,.i .i64 0,.u 0,.u 0,.i .i64 0,.i .i64 0,.i .i64 0,.raw (.slice none 0 0)]⟩),
 (47,⟨.func,1,8,[.raw .nilFunc]⟩),
 (48,⟨.func,1,8,[.raw .nilFunc]⟩),
 (50,⟨.func,1,8,[.raw .nilFunc]⟩),
 (51,⟨(.slice 3),1,24,[.raw (.slice none 0 0)]⟩),
 (52,⟨(.slice 53),1,24,[.raw (.slice none 0 0)]⟩),
 (53,⟨(.slice 57),1,24,[.raw (.slice none 0 0)]⟩),
 (54,⟨(.strct [(3,0),(3,1),(3,2),(36,3)]),7,56,[.i .i64 0,.i .i64 0,.i .i64 0,.u 0,.u 0,.u 0,.u 0]⟩),
 (55,⟨(.strct [(3,0),(3,1),(3,2),(36,3)]),7,56,[.i .i64 0,.i .i64 0,.i .i64 0,.u 0,.u 0,.u 0,.u 0]⟩),
 (56,⟨(.strct [(3,0),(36,1),(55,5)]),12,96,[.i .i64 0,.u 0,.u 0,.u 0,.u 0,.i .i64 0,.i .i64 0,.i .i64 0,.u 0,.u 0,.u 0,.u 0]⟩),
 (57,⟨(.strct [(3,0),(36,1),(55,5)]),12,96,[.i .i64 0,.u 0,.u 0,.u 0,.u 0,.i .i64 0,.i .i64 0,.i .i64 0,.u 0,.u 0,.u 0,.u 0]⟩),
 (58,⟨.func,1,8,[.raw .nilFunc]⟩),
 (59,⟨.func,1,8,[.raw .nilFunc]⟩),
 (60,⟨.func,1,8,[.raw .nilFunc]⟩),
 (61,⟨.func,1,8,[.raw .nilFunc]⟩),
 (62,⟨(.strct [(3,0),(3,1),(3,2),(4,3),(57,4)]),16,128,[.i .i64 0,.i .i64 0,.i .i64 0,.b false,.i .i64 0,.u 0,.u 0,.u 0,.u 0,.i .i64 0,.i .i64 0,.i .i64 0,.u 0,.u 0,.u 0,.u 0]⟩),
 (63,⟨(.strct [(3,0),(3,1),(3,2),(4,3),(57,4)]),16,128,[.i .i64 0,.i .i64 0,.i .i64 0,.b false,.i .i64 0,.u 0,.u 0,.u 0,.u 0,.i .i64 0,.i .i64 0,.i .i64 0,.u 0,.u 0,.u 0,.u 0]⟩),
 (64,⟨.func,1,8,[.raw .nilFunc]⟩),
 (65,⟨.func,1,8,[.raw .nilFunc]⟩),
 (66,⟨.func,1,8,[.raw .nilFunc]⟩),
 (67,⟨.func,1,8,[.raw .nilFunc]⟩),
 (68,⟨(.slice 69),1,24,[.raw (.slice none 0 0)]⟩),
 (69,⟨(.slice 63),1,24,[.raw (.slice none 0 0)]⟩),
 (70,⟨(.slice 75),1,24,[.raw (.slice none 0 0)]⟩),
 (71,⟨.func,1,8,[.raw .nilFunc]⟩),
 (72,⟨.func,1,8,[.raw .nilFunc]⟩),
 (73,⟨(.slice 36),1,24,[.raw (.slice none 0 0)]⟩),
 (74,⟨(.strct [(51,0),(34,1),(73,3)]),4,64,[.raw (.slice none 0 0),.u 0,.u 0,.raw (.slice none 0 0)]⟩),
 (75,⟨(.strct [(51,0),(34,1),(73,3)]),4,64,[.raw (.slice none 0 0),.u 0,.u 0,.raw (.slice none 0 0)]⟩),
 (76,⟨.func,1,8,[.raw .nilFunc]⟩),
 (77,⟨.func,1,8,[.raw .nilFunc]⟩),
 (78,⟨(.strct [(3,0),(3,1),(3,2),(34,3)]),5,40,[.i .i64 0,.i .i64 0,.i .i64 0,.u 0,.u 0]⟩),
 (79,⟨(.strct [(3,0),(3,1),(3,2),(34,3)]),5,40,[.i .i64 0,.i .i64 0,.i .i64 0,.u 0,.u 0]⟩),
 (80,⟨.func,1,8,[.raw .nilFunc]⟩),
 (81,⟨.func,1,8,[.raw .nilFunc]⟩),
 (82,⟨.func,1,8,[.raw .nilFunc]⟩),
 (83,⟨.func,1,8,[.raw .nilFunc]⟩),
 (85,⟨.func,1,8,[.raw .nilFunc]⟩),
 (86,⟨.func,1,8,[.raw .nilFunc]⟩),
 (87,⟨.func,1,8,[.raw .nilFunc]⟩),
 (88,⟨.map,1,8,[.raw (.map none)]⟩),
 (89,⟨(.strct [(88,0),(3,1),(70,2)]),3,40,[.raw (.map none),.i .i64 0,.raw (.slice none 0 0)]⟩),
 (90,⟨(.strct [(88,0),(3,1),(70,2)]),3,40,[.raw (.map none),.i .i64 0,.raw (.slice none 0 0)]⟩),
 (92,⟨.func,1,8,[.raw .nilFunc]⟩),
 (93,⟨.ptr,1,8,[.raw (.pointer none)]⟩),
 (94,⟨.func,1,8,[.raw .nilFunc]⟩),
 (95,⟨(.strct [(31,0),(3,5),(90,6),(93,9)]),10,160,[.raw (.slice none 0 0),.i .i64 0,.raw (.slice none 0 0),.raw (.slice none 0 0),.raw (.slice none 0 0),.i .i64 0,.raw (.map none),.i .i64 0,.raw (.slice none 0 0),.raw (.pointer none)]⟩),
 (96,⟨(.strct [(31,0),(3,5),(90,6),(93,9)]),10,160,[.raw (.slice none 0 0),.i .i64 0,.raw (.slice none 0 0),.raw (.slice none 0 0),.raw (.slice none 0 0),.i .i64 0,.raw (.map none),.i .i64 0,.raw (.slice none 0 0),.raw (.pointer none)]⟩),
 (98,⟨.func,1,8,[.raw .nilFunc]⟩),
 (99,⟨(.slice 5),1,24,[.raw (.slice none 0 0)]⟩),
 (100,⟨.func,1,8,[.raw .nilFunc]⟩),
 (101,⟨.func,1,8,[.raw .nilFunc]⟩),
 (102,⟨.func,1,8,[.raw .nilFunc]⟩),
 (103,⟨.func,1,8,[.raw .nilFunc]⟩),
 (104,⟨.func,1,8,[.raw .nilFunc]⟩),
 (105,⟨(.arr 2 3),2,16,[.i .i64 0,.i .i64 0]⟩),
 (106,⟨(.strct [(3,0),(3,1),(3,2)]),3,24,[.i .i64 0,.i .i64 0,.i .i64 0]⟩),
 (107,⟨(.strct [(3,0),(3,1),(3,2)]),3,24,[.i .i64 0,.i .i64 0,.i .i64 0]⟩),
 (108,⟨.func,1,8,[.raw .nilFunc]⟩),
 (109,⟨.func,1,8,[.raw .nilFunc]⟩),
 (110,⟨.func,1,8,[.raw .nilFunc]⟩),
 (111,⟨.func,1,8,[.raw .nilFunc]⟩),
 (112,⟨(.slice 114),1,24,[.raw (.slice none 0 0)]⟩),
 (113,⟨(.strct [(3,0),(3,1),(3,2),(3,3),(3,4)]),5,40,[.i .i64 0,.i .i64 0,.i .i64 0,.i .i64 0,.i .i64 0]⟩),
 (114,⟨(.strct [(3,0),(3,1),(3,2),(3,3),(3,4)]),5,40,[.i .i64 0,.i .i64 0,.i .i64 0,.i .i64 0,.i .i64 0]⟩),
 (115,⟨.func,1,8,[.raw .nilFunc]⟩),
 (117,⟨.func,1,8,[.raw .nilFunc]⟩),
 (118,⟨.func,1,8,[.raw .nilFunc]⟩),
 (120,⟨.func,1,8,[.raw .nilFunc]⟩),
 (122,⟨.func,1,8,[.raw .nilFunc]⟩),
 (124,⟨.func,1,8,[.raw .nilFunc]⟩),
 (125,⟨.func,1,8,[.raw .nilFunc]⟩),
 (126,⟨.func,1,8,[.raw .nilFunc]⟩),
 (127,⟨.func,1,8,[.raw .nilFunc]⟩),
 (128,⟨.func,1,8,[.raw .nilFunc]⟩),
 (129,⟨.func,1,8,[.raw .nilFunc]⟩),
 (130,⟨.func,1,8,[.raw .nilFunc]⟩),
 (131,⟨.func,1,8,[.raw .nilFunc]⟩),
 (132,⟨.func,1,8,[.raw .nilFunc]⟩),
 (133,⟨.func,1,8,[.raw .nilFunc]⟩),
 (134,⟨(.int .u64),1,8,[.u 0]⟩),
 (135,⟨.func,1,8,[.raw .nilFunc]⟩),
 (136,⟨.ptr,1,8,[.raw (.pointer none)]⟩),
 (137,⟨(.arr 3 136),3,24,[.raw (.pointer none),.raw (.pointer none),.raw (.pointer none)]⟩),
 (138,⟨(.strct [(137,0),(51,3)]),4,48,[.raw (.pointer none),.raw (.pointer none),.raw (.pointer none),.raw (.slice none 0 0)]⟩),
 (139,⟨(.strct [(137,0),(51,3)]),4,48,[.raw (.pointer none),.raw (.pointer none),.raw (.pointer none),.raw (.slice none 0 0)]⟩),
 (140,⟨.map,1,8,[.raw (.map none)]⟩),
 (141,⟨(.strct [(139,0),(140,4)]),5,56,[.raw (.pointer none),.raw (.pointer none),.raw (.pointer none),.raw (.slice none 0 0),.raw (.map none)]⟩),
 (142,⟨(.strct [(139,0),(140,4)]),5,56,[.raw (.pointer none),.raw (.pointer none),.raw (.pointer none),.raw (.slice none 0 0),.raw (.map none)]⟩),
 (143,⟨.func,1,8,[.raw .nilFunc]⟩),
 (144,⟨.func,1,8,[.raw .nilFunc]⟩),
 (145,⟨(.strct [(36,0)]),4,32,[.u 0,.u 0,.u 0,.u 0]⟩),
 (146,⟨(.strct [(36,0)]),4,32,[.u 0,.u 0,.u 0,.u 0]⟩),
 (147,⟨.func,1,8,[.raw .nilFunc]⟩),
 (148,⟨.func,1,8,[.raw .nilFunc]⟩),
 (149,⟨.ptr,1,8,[.raw (.pointer none)]⟩),
 (150,⟨.func,1,8,[.raw .nilFunc]⟩),
 (151,⟨.func,1,8,[.raw .nilFunc]⟩),
 (152,⟨.func,1,8,[.raw .nilFunc]⟩),
 (153,⟨.func,1,8,[.raw .nilFunc]⟩),
 (154,⟨.func,1,8,[.raw .nilFunc]⟩),
 (155,⟨.func,1,8,[.raw .nilFunc]⟩),
 (156,⟨(.slice 154),1,24,[.raw (.slice none 0 0)]⟩),
 (157,⟨(.slice 40),1,24,[.raw (.slice none 0 0)]⟩),
 (158,⟨.func,1,8,[.raw .nilFunc]⟩),
 (160,⟨.func,1,8,[.raw .nilFunc]⟩),
 (161,⟨.func,1,8,[.raw .nilFunc]⟩),
 (162,⟨.ptr,1,8,[.raw (.pointer none)]⟩),
 (163,⟨.func,1,8,[.raw .nilFunc]⟩),
 (164,⟨(.strct [(162,0)]),1,8,[.raw (.pointer none)]⟩),
 (165,⟨(.strct [(162,0)]),1,8,[.raw (.pointer none)]⟩),
 (166,⟨.func,1,8,[.raw .nilFunc]⟩),
 (167,⟨.func,1,8,[.raw .nilFunc]⟩),
 (168,⟨.map,1,8,[.raw (.map none)]⟩),
 (169,⟨(.strct [(73,0),(168,1)]),2,32,[.raw (.slice none 0 0),.raw (.map none)]⟩),
 (170,⟨(.strct [(73,0),(168,1)]),2,32,[.raw (.slice none 0 0),.raw (.map none)]⟩),
 (172,⟨.func,1,8,[.raw .nilFunc]⟩),
 (173,⟨.func,1,8,[.raw .nilFunc]⟩),
 (174,⟨.func,1,8,[.raw .nilFunc]⟩),
 (175,⟨.func,1,8,[.raw .nilFunc]⟩),
 (176,⟨.func,1,8,[.raw .nilFunc]⟩),
 (177,⟨.func,1,8,[.raw .nilFunc]⟩),
 (178,⟨.func,1,8,[.raw .nilFunc]⟩),
 (179,⟨.func,1,8,[.raw .nilFunc]⟩),
 (180,⟨.func,1,8,[.raw .nilFunc]⟩),
 (181,⟨.func,1,8,[.raw .nilFunc]⟩),
 (182,⟨.func,1,8,[.raw .nilFunc]⟩),
 (183,⟨.func,1,8,[.raw .nilFunc]⟩),
 (184,⟨.func,1,8,[.raw .nilFunc]⟩),
 (185,⟨.func,1,8,[.raw .nilFunc]⟩),
 (186,⟨.func,1,8,[.raw .nilFunc]⟩),
 (187,⟨.func,1,8,[.raw .nilFunc]⟩),
 (188,⟨.func,1,8,[.raw .nilFunc]⟩),
 (189,⟨.func,1,8,[.raw .nilFunc]⟩),
 (190,⟨.func,1,8,[.raw .nilFunc]⟩),
 (191,⟨.func,1,8,[.raw .nilFunc]⟩),
 (192,⟨.func,1,8,[.raw .nilFunc]⟩),
 (193,⟨.func,1,8,[.raw .nilFunc]⟩),
 (194,⟨.ptr,1,8,[.raw (.pointer none)]⟩),
 (195,⟨.func,1,8,[.raw .nilFunc]⟩),
 (196,⟨.func,1,8,[.raw .nilFunc]⟩),
 (197,⟨.func,1,8,[.raw .nilFunc]⟩),
 (198,⟨.func,1,8,[.raw .nilFunc]⟩),
 (199,⟨.func,1,8,[.raw .nilFunc]⟩),
 (200,⟨.func,1,8,[.raw .nilFunc]⟩),
 (201,⟨.func,1,8,[.raw .nilFunc]⟩),
 (202,⟨.func,1,8,[.raw .nilFunc]⟩),
 (203,⟨.func,1,8,[.raw .nilFunc]⟩),
 (204,⟨.func,1,8,[.raw .nilFunc]⟩),
 (205,⟨.func,1,8,[.raw .nilFunc]⟩),
 (206,⟨.func,1,8,[.raw .nilFunc]⟩),
 (208,⟨.func,1,8,[.raw .nilFunc]⟩),
 (209,⟨.ptr,1,8,[.raw (.pointer none)]⟩),
 (210,⟨(.strct [(31,0),(40,5),(34,7),(43,9)]),13,184,[.raw (.slice none 0 0),.i .i64 0,.raw (.slice none 0 0),.raw (.slice none 0 0),.raw (.slice none 0 0),.i .i64 0,.i .i64 0,.u 0,.u 0,.i .i64 0,.i .i64 0,.i .i64 0,.raw (.slice none 0 0)]⟩),
 (211,⟨(.strct [(31,0),(40,5),(34,7),(43,9)]),13,184,[.raw (.slice none 0 0),.i .i64 0,.raw (.slice none 0 0),.raw (.slice none 0 0),.raw (.slice none 0 0),.i .i64 0,.i .i64 0,.u 0,.u 0,.i .i64 0,.i .i64 0,.i .i64 0,.raw (.slice none 0 0)]⟩),
 (212,⟨.func,1,8,[.raw .nilFunc]⟩),
 (213,⟨.func,1,8,[.raw .nilFunc]⟩),
 (214,⟨.func,1,8,[.raw .nilFunc]⟩),
 (215,⟨.func,1,8,[.raw .nilFunc]⟩),
 (216,⟨.func,1,8,[.raw .nilFunc]⟩),
 (217,⟨.func,1,8,[.raw .nilFunc]⟩),
 (218,⟨.func,1,8,[.raw .nilFunc]⟩),
 (219,⟨.func,1,8,[.raw .nilFunc]⟩),
 (220,⟨.func,1,8,[.raw .nilFunc]⟩),
 (221,⟨.func,1,8,[.raw .nilFunc]⟩),
 (222,⟨.func,1,8,[.raw .nilFunc]⟩),
 (223,⟨(.strct [(31,0),(41,5)]),6,128,[.raw (.slice none 0 0),.i .i64 0,.raw (.slice none 0 0),.raw (.slice none 0 0),.raw (.slice none 0 0),.raw (.slice none 0 0)]⟩),
 (224,⟨(.strct [(31,0),(41,5)]),6,128,[.raw (.slice none 0 0),.i .i64 0,.raw (.slice none 0 0),.raw (.slice none 0 0),.raw (.slice none 0 0),.raw (.slice none 0 0)]⟩),
 (225,⟨.func,1,8,[.raw .nilFunc]⟩),
 (227,⟨.func,1,8,[.raw .nilFunc]⟩),
 (228,⟨.func,1,8,[.raw .nilFunc]⟩),
 (229,⟨.func,1,8,[.raw .nilFunc]⟩),
 (230,⟨.func,1,8,[.raw .nilFunc]⟩),
 (231,⟨(.strct [(32,0),(32,1)]),2,16,[.u 0,.u 0]⟩),
 (232,⟨.func,1,8,[.raw .nilFunc]⟩),
 (233,⟨.func,1,8,[.raw .nilFunc]⟩),
 (234,⟨(.int .i64),1,8,[.i .i64 0]⟩),
 (236,⟨.func,1,8,[.raw .nilFunc]⟩),
 (237,⟨.func,1,8,[.raw .nilFunc]⟩),
 (238,⟨.func,1,8,[.raw .nilFunc]⟩),
 (239,⟨.func,1,8,[.raw .nilFunc]⟩),
 (240,⟨.func,1,8,[.raw .nilFunc]⟩),
 (241,⟨.func,1,8,[.raw .nilFunc]⟩),
 (242,⟨(.int .u32),1,4,[.i .u32 0]⟩),
 (243,⟨.func,1,8,[.raw .nilFunc]⟩),
 (244,⟨.func,1,8,[.raw .nilFunc]⟩),
 (245,⟨.func,1,8,[.raw .nilFunc]⟩),
 (246,⟨(.strct [(3,0),(36,1),(55,5)]),12,96,[.i .i64 0,.u 0,.u 0,.u 0,.u 0,.i .i64 0,.i .i64 0,.i .i64 0,.u 0,.u 0,.u 0,.u 0]⟩),
 (247,⟨.func,1,8,[.raw .nilFunc]⟩),
 (248,⟨.func,1,8,[.raw .nilFunc]⟩),
 (249,⟨.func,1,8,[.raw .nilFunc]⟩),
 (250,⟨.func,1,8,[.raw .nilFunc]⟩),
 (251,⟨.func,1,8,[.raw .nilFunc]⟩),
 (252,⟨.func,1,8,[.raw .nilFunc]⟩),
 (253,⟨.func,1,8,[.raw .nilFunc]⟩),
 (254,⟨.func,1,8,[.raw .nilFunc]⟩),
 (255,⟨.func,1,8,[.raw .nilFunc]⟩),
 (256,⟨.func,1,8,[.raw .nilFunc]⟩),
 (258,⟨.func,1,8,[.raw .nilFunc]⟩),
 (259,⟨.func,1,8,[.raw .nilFunc]⟩),
 (261,⟨.func,1,8,[.raw .nilFunc]⟩),
 (263,⟨.func,1,8,[.raw .nilFunc]⟩),
 (264,⟨.func,1,8,[.raw .nilFunc]⟩),
 (265,⟨.func,1,8,[.raw .nilFunc]⟩),
 (266,⟨.func,1,8,[.raw .nilFunc]⟩),
 (267,⟨.func,1,8,[.raw .nilFunc]⟩),
 (268,⟨.func,1,8,[.raw .nilFunc]⟩),
 (269,⟨.func,1,8,[.raw .nilFunc]⟩),
 (270,⟨.func,1,8,[.raw .nilFunc]⟩),
 (272,⟨.func,1,8,[.raw .nilFunc]⟩),
 (274,⟨.func,1,8,[.raw .nilFunc]⟩),
 (275,⟨.func,1,8,[.raw .nilFunc]⟩),
 (276,⟨(.int .u64),1,8,[.u 0]⟩),
 (277,⟨.func,1,8,[.raw .nilFunc]⟩),
 (278,⟨.func,1,8,[.raw .nilFunc]⟩),
 (279,⟨.func,1,8,[.raw .nilFunc]⟩),
 (280,⟨.ptr,1,8,[.raw (.pointer none)]⟩),
 (281,⟨.func,1,8,[.raw .nilFunc]⟩),
 (282,⟨.func,1,8,[.raw .nilFunc]⟩),
 (283,⟨.func,1,8,[.raw .nilFunc]⟩),
 (284,⟨(.slice 3),1,24,[.raw (.slice none 0 0)]⟩),
 (285,⟨.func,1,8,[.raw .nilFunc]⟩),
 (286,⟨.func,1,8,[.raw .nilFunc]⟩),
 (287,⟨.func,1,8,[.raw .nilFunc]⟩),
 (288,⟨.func,1,8,[.raw .nilFunc]⟩),
 (289,⟨.func,1,8,[.raw .nilFunc]⟩),
 (290,⟨.func,1,8,[.raw .nilFunc]⟩),
 (291,⟨.func,1,8,[.raw .nilFunc]⟩),
 (292,⟨.func,1,8,[.raw .nilFunc]⟩),
 (293,⟨.func,1,8,[.raw .nilFunc]⟩),
 (294,⟨.func,1,8,[.raw .nilFunc]⟩),
 (296,⟨.func,1,8,[.raw .nilFunc]⟩),
 (297,⟨.func,1,8,[.raw .nilFunc]⟩),
 (298,⟨.func,1,8,[.raw .nilFunc]⟩),
 (299,⟨.func,1,8,[.raw .nilFunc]⟩),
 (300,⟨.ptr,1,8,[.raw (.pointer none)]⟩),
 (302,⟨.func,1,8,[.raw .nilFunc]⟩),
 (303,⟨.func,1,8,[.raw .nilFunc]⟩),
 (304,⟨.func,1,8,[.raw .nilFunc]⟩),
 (305,⟨.func,1,8,[.raw .nilFunc]⟩),
 (306,⟨.func,1,8,[.raw .nilFunc]⟩),
 (307,⟨.func,1,8,[.raw .nilFunc]⟩),
 (308,⟨.func,1,8,[.raw .nilFunc]⟩),
 (309,⟨(.slice 73),1,24,[.raw (.slice none 0 0)]⟩),
 (310,⟨.func,1,8,[.raw .nilFunc]⟩),
 (311,⟨.func,1,8,[.raw .nilFunc]⟩),
 (313,⟨.func,1,8,[.raw .nilFunc]⟩),
 (314,⟨.func,1,8,[.raw .nilFunc]⟩),
 (315,⟨(.slice 51),1,24,[.raw (.slice none 0 0)]⟩),
 (316,⟨.func,1,8,[.raw .nilFunc]⟩),
 (317,⟨.func,1,8,[.raw .nilFunc]⟩),
 (318,⟨.func,1,8,[.raw .nilFunc]⟩),
 (319,⟨.func,1,8,[.raw .nilFunc]⟩),
 (320,⟨.ptr,1,8,[.raw (.pointer none)]⟩),
 (321,⟨(.strct [(53,0),(51,1)]),2,48,[.raw (.slice none 0 0),.raw (.slice none 0 0)]⟩),
 (322,⟨(.strct [(53,0),(51,1)]),2,48,[.raw (.slice none 0 0),.raw (.slice none 0 0)]⟩),
 (323,⟨.func,1,8,[.raw .nilFunc]⟩),
 (324,⟨.func,1,8,[.raw .nilFunc]⟩),
 (325,⟨.func,1,8,[.raw .nilFunc]⟩),
 (326,⟨.func,1,8,[.raw .nilFunc]⟩),
 (327,⟨.func,1,8,[.raw .nilFunc]⟩),
 (328,⟨.func,1,8,[.raw .nilFunc]⟩),
 (329,⟨.func,1,8,[.raw .nilFunc]⟩),
 (330,⟨.func,1,8,[.raw .nilFunc]⟩),
 (331,⟨.func,1,8,[.raw .nilFunc]⟩),
 (332,⟨.func,1,8,[.raw .nilFunc]⟩),
 (333,⟨.func,1,8,[.raw .nilFunc]⟩),
 (334,⟨.func,1,8,[.raw .nilFunc]⟩),
 (335,⟨.func,1,8,[.raw .nilFunc]⟩),
 (336,⟨.func,1,8,[.raw .nilFunc]⟩),
 (337,⟨.func,1,8,[.raw .nilFunc]⟩),
 (338,⟨(.strct [(17,0),(17,1),(17,2),(9,3)]),4,40,[.raw (.pointer none),.raw (.pointer none),.raw (.pointer none),.s []]⟩),
 (339,⟨(.strct [(17,0),(17,1),(17,2),(9,3)]),4,40,[.raw (.pointer none),.raw (.pointer none),.raw (.pointer none),.s []]⟩),
 (340,⟨(.arr 0 16),0,0,[]⟩),
 (341,⟨(.strct [(340,0)]),0,0,[]⟩),
 (342,⟨(.strct [(340,0)]),0,0,[]⟩),
 (343,⟨.func,1,8,[.raw .nilFunc]⟩),
 (344,⟨(.int .u8),1,1,[.y 0]⟩),
 (345,⟨(.int .u8),1,1,[.y 0]⟩),
 (346,⟨.func,1,8,[.raw .nilFunc]⟩),
 (347,⟨.ptr,1,8,[.raw (.pointer none)]⟩),
 (348,⟨(.int .i32),1,4,[.i .i32 0]⟩),
 (349,⟨(.int .i32),1,4,[.i .i32 0]⟩),
 (350,⟨(.strct [(12,0),(12,1),(242,2),(344,3),(5,4),(5,5),(345,6),(346,7),(347,8),(348,9),(349,10)]),11,48,[.u 0,.u 0,.i .u32 0,.y 0,.y 0,.y 0,.y 0,.raw .nilFunc,.raw (.pointer none),.i .i32 0,.i .i32 0]⟩),
 (351,⟨(.strct [(12,0),(12,1),(242,2),(344,3),(5,4),(5,5),(345,6),(346,7),(347,8),(348,9),(349,10)]),11,48,[.u 0,.u 0,.i .u32 0,.y 0,.y 0,.y 0,.y 0,.raw .nilFunc,.raw (.pointer none),.i .i32 0,.i .i32 0]⟩),
 (352,⟨.func,1,8,[.raw .nilFunc]⟩)]
theorem ae:fW Tryz.prog tyT=true:=by kernel_rfl
theorem aJ:Tryz.prog.follows .mixedOrders=true:=by kernel_rfl
theorem wA {P:Program}{N:Nat}{Q:Exit->St->Prop}{s:St}{x y:Code}(h:AW P N x (hZ (AW P N y Q) Q) s):AW P N (.seq x y) Q s:=AW.seq h
theorem wB {P:Program}{N:Nat}{Q:Exit->St->Prop}{s:St}(h:Q .normal s):AW P N .skip Q s:=AW.skip h
theorem wC {P:Program}{N:Nat}{Q:Exit->St->Prop}{s:St}{id:Nat}{c:Code}(h:AW P N c (jS id Q) s):AW P N (.block id c) Q s:=AW.block h
theorem wD {P:Program}{N:Nat}{ops:Array Oper}{rest:List Oper}{s:St}{K:St->List Eff->Prop}(h:RG P N ops rest s K):RG P N ops rest s K:=h
theorem wE {P:Program}{N:Nat}{ops:Array Oper}{s:St}{K:St->List Eff->Prop}(h:K s []):RG P N ops [] s K:=RG.nil h
theorem wF {P:Program}{N id:Nat}{ops:Array Oper}{Q:Exit->St->Prop}{s:St}(h:RG P N ops ops.toList s fun s' _=>Q .normal s'):AW P N (.region id ops false) Q s:=AW.text h
theorem wG {N id:Nat}{ops:Array Oper}{Q:Exit->St->Prop}{s:St}(h:RG Tryz.prog N ops ops.toList s fun s' Es=>dC ops (ops.toList.zip Es)=true/\Q .normal s'):AW Tryz.prog N (.region id ops true) Q s:=AW.draws aJ h
theorem wH {N:Nat}{ops:Array Oper}{rest:List Oper}{s:St}{K:St->List Eff->Prop}{r:List Oper}{s':St}{Es:List Eff}(h:ov tyT 0 N ops 400 rest s []=(r,s',Es))(hr:RG Tryz.prog N ops r s' (fun s'' Fs=>K s'' (Es.reverseAux Fs))):RG Tryz.prog N ops rest s K:=RG.runG ae 0 400 h hr
theorem zI {N id:Nat}{ops:Array Oper}{Q:Exit -> St -> Prop}{s:St}{r:List Oper}{s':St}{Es:List Eff}(h:ov tyT 0 N ops 400 ops.toList s [] = (r,s',Es))(hr:RG Tryz.prog N ops r s' (fun s'' Fs=>Q .normal s'')):AW Tryz.prog N (.region id ops false) Q s := wF (wH h hr)
theorem zJ {N id:Nat}{ops:Array Oper}{Q:Exit -> St -> Prop}{s:St}{r:List Oper}{s':St}{Es:List Eff}(h:ov tyT 0 N ops 400 ops.toList s [] = (r,s',Es))(hr:RG Tryz.prog N ops r s' (fun s'' Fs=>dC ops (ops.toList.zip (Es.reverseAux Fs)) = true /\ Q .normal s'')):AW Tryz.prog N (.region id ops true) Q s := wG (wH h hr)
theorem zM {ops:Array Oper}{L:List (Oper × Eff)}{q:Prop}(h1:dC ops L = true)(h2:q):dC ops L = true /\ q := ⟨h1,h2⟩
theorem jA {p q:Prop}(h:q)(t:q -> p:=by intro h;(repeat first|apply wA|apply wB|apply wC|apply wE|(apply zM;·kernel_rfl)|refine zI rfl ?_|refine zJ rfl ?_);exact h):p:=t h
theorem jH {p q:Prop}(h:q)(t:q -> p:=by intro h;refine wH rfl ?_;refine jA ?_;exact h):p:=t h
theorem jR {p q:Prop}(h:q)(t:q -> p:=by intro h;refine AW.ret (Io ae rfl rfl rfl ?_);exact h):p:=t h
theorem jB {p q:Prop}(h:q)(t:q -> p:=by intro h;(repeat first|apply wA|apply wB|apply wC|apply wE|(apply zM;·kernel_rfl));exact h):p:=t h
theorem jD {p:Prop}(t:p:=by repeat' (first|exact trivial|apply And.intro|exact dT ‹_›|exact dF ‹_›|exact dN ‹_›|exact dM ‹_›|exact dI ‹_›)):p:=t
theorem jW {p:Prop}(t:p:=by repeat(first|exact trivial|refine⟨rI rfl rfl,?_⟩|refine⟨rO rfl rfl rfl,?_⟩|refine⟨rR rfl rfl rfl,?_⟩|refine⟨bR rfl rfl,?_⟩|refine⟨bS rfl rfl rfl,?_⟩)):p:=t
theorem jV {p:Prop}(t:p:=by repeat(first|exact trivial|refine⟨rI rfl rfl,?_⟩|refine⟨rI (ay (by assumption) (by first|assumption|decide)) rfl,?_⟩|refine⟨rO rfl rfl rfl,?_⟩|refine⟨rR rfl rfl rfl,?_⟩|refine⟨bR rfl rfl,?_⟩|refine⟨bS rfl rfl rfl,?_⟩)):p:=t
theorem jX {p:Prop}(t:p:=by first|omega|(simp only [kA0,qH] <;> omega)|rfl):p:=t
theorem jE {p q:Prop}(h:q)(t:q -> p:=by intro h;refine AW.exit ?_;refine Eq.mpr (if_pos rfl) ?_;exact h):p:=t h
theorem tk {t:Nat}{ti:TI}(ht:dZ tyT t=some ti):aB Tryz.prog t ti:=aW ae ht
theorem rI {σ σ':Sto}{x y:AV}(e:x=y)(h:y.pu1=true):Rn σ σ' x y:=Rn.is e h
theorem rO {σ σ':Sto}{x:AV}{id ep ep' off:Nat}{bd bd':aE}(e:x = .own id ep off)(h:σ id=⟨ep,some bd⟩)(h':σ' id=⟨ep',some bd'⟩):Rn σ σ' x (.own id ep' off):=Rn.ownIs e h h'
theorem rR {σ σ':Sto}{x:AV}{id ep ep' off n t m:Nat}{els:List (List AV)}(e:x = .row id ep off n)(h:σ id=⟨ep,some (.row t m els)⟩)(h':σ' id=⟨ep',some (.row t m els)⟩):Rn σ σ' x (.row id ep' off n):=Rn.rowIs e h h'
theorem jQ {p:Prop}(t:p:=by repeat(first|exact trivial|refine⟨Rn.is rfl rfl,?_⟩|refine⟨Rn.ownIs rfl rfl rfl,?_⟩|refine⟨Rn.rowIs rfl rfl rfl,?_⟩|refine⟨Rn.refIs rfl rfl rfl,?_⟩|refine⟨Rn.fnF rfl rfl,?_⟩|refine⟨Rn.fnO rfl rfl rfl,?_⟩)):p:=t
theorem jc {p q c:Prop}(d:c)(h:q)(t:c->q->p:=by intro d h;refine RG.callS rfl rfl rfl rfl rfl d rfl rfl ?_;exact h):p:=t d h
theorem jm {p q c:Prop}(d:c)(h:q)(t:c->q->p:=by intro d h;refine RG.callMS rfl rfl rfl rfl rfl rfl d rfl ?_;exact h):p:=t d h
theorem jx {p q c:Prop}(d:c)(h:q)(t:c->q->p:=by intro d h;refine RG.opS rfl (aq rfl (tk rfl) rfl (tk rfl) rfl rfl d rfl) rfl ?_;exact h):p:=t d h
theorem jb {p q c:Prop}(d:c)(h:q)(t:c->q->p:=by intro d h;refine aa.of_bodyN d rfl (by kernel_rfl) rfl rfl ?_;exact h):p:=t d h
theorem zF {p q:Prop}(h:q)(t:q->p:=by intro h;refine AW.condF rfl ?_;refine jA ?_;exact h):p:=t h
theorem zT {p q:Prop}(h:q)(t:q->p:=by intro h;refine AW.condT rfl ?_;refine jA ?_;exact h):p:=t h
theorem zE {p q:Prop}(h:q)(t:q->p:=by intro h;refine jA ?_;refine jE ?_;refine jA ?_;exact h):p:=t h
theorem zR {p q:Prop}(h:q)(t:q->p:=by intro h;refine jA ?_;refine jR ?_;exact h):p:=t h
theorem zH {p q:Prop}(h:q)(t:q->p:=by intro h;refine jH ?_;refine jR ?_;exact h):p:=t h
theorem zB {p q:Prop}(h:q)(t:q->p:=by intro h;refine jB ?_;refine AW.text ?_;exact h):p:=t h
theorem zD {p q:Prop}(h:q)(t:q->p:=by intro h;refine jB ?_;refine AW.draws aJ ?_;exact h):p:=t h
theorem zS {p:Prop}(t:p:=by refine jR ?_;rfl):p:=t
theorem dT {p:Prop}[Decidable p](h:p):AV.b (decide p) = .b true:=congrArg AV.b (qE h)
theorem dF {p:Prop}[Decidable p](h:¬p):AV.b (decide p) = .b false:=congrArg AV.b (qC h)
theorem dN {p:Prop}[Decidable p](h:p):AV.b (!decide p) = .b false:=congrArg (fun b=>AV.b (!b)) (qE h)
theorem dM {p:Prop}[Decidable p](h:¬p):AV.b (!decide p) = .b true:=congrArg (fun b=>AV.b (!b)) (qC h)
theorem dI {k:IntKind}{a b:Int}(h:a=b):AV.i k a = .i k b:=congrArg (AV.i k) h
theorem bR {s:St}{σ':Sto}{id:Nat}{t:TypeId}{m ep ep':Nat}{els els':List (List AV)}(h:s.σ id=⟨ep,some (.row t m els)⟩)(he:els=els'):iv s σ' id ⟨ep',some (.row t m els')⟩:=.row h he
theorem bS {s:St}{σ':Sto}{id ep ep':Nat}{t:TypeId}{cs:List AV}(h:s.σ id=⟨ep,some (.box t cs)⟩)(h1:cs.all AV.one=true)(hp:cs.all AV.pu1=true):iv s σ' id ⟨ep',some (.box t cs)⟩:=.same h h1 hp
open Go.RowKit Go.WideShapes Go.ChangeShapes Go.Deep
theorem bz.iint {P:Program}{t:TypeId}(ht:P.underlying t=some (.int .i64)):bz P t 1 (fun x:Int=>[.i .i64 x]) :=
  ⟨fun _=>rfl,fun _ y hy=>by obtain rfl:=qP.1 hy;rfl,fun H e w base spare held fuel cs x hx=>by
    obtain⟨n,rfl,_,hw⟩:=DataW.trod_int ht hx
    exact⟨n,.single (.i _ _) rfl⟩⟩
theorem cA:bz Tryz.prog 3 1 (fun x:Int=>[.i .i64 x]):=.iint Tryz.underlying3
theorem BA:bz Tryz.prog 32 1 (fun x:UInt64=>[.u x]):=.u64 Tryz.underlying32
theorem Ck:bz Tryz.prog 4 1 (fun x:Bool=>[.b x]):=.bool Tryz.underlying4
structure Hd where
 hi:UInt64
 lo:UInt64
theorem Hd.eq_iff (a b:Hd):a=b↔a.hi=b.hi/\a.lo=b.lo:=by
 cases a;cases b;simp
instance:DecidableEq Hd:=fun a b=>decidable_of_iff _ (Hd.eq_iff a b).symm
def cHd (x:Hd):List AV:=[.u x.hi,.u x.lo]
theorem xm:bz Tryz.prog 34 2 (α:=Hd) cHd:=by
 refine⟨fun _=>rfl,fun a=>qV.1 rfl,fun H e w base spare held fuel cs x hx=>?_⟩
 obtain⟨m,hl,hp⟩:=cD Tryz.underlying34 hx
 have hl:cs.length=2:=hl.trans (by kernel_rfl)
 obtain⟨a0,h0⟩:=BA.part (hp 0 32 0 1 rfl (by kernel_rfl))
 obtain⟨a1,h1⟩:=BA.part (hp 1 32 1 1 rfl (by kernel_rfl))
 refine⟨⟨a0,a1⟩,PWs.all ?_⟩
 exact h0.join rfl (h1.join rfl (PWs.nil hl))
structure Cb where
 value:Hd
 care:Hd
theorem Cb.eq_iff (a b:Cb):a=b↔a.value=b.value/\a.care=b.care:=by
 cases a;cases b;simp
instance:DecidableEq Cb:=fun a b=>decidable_of_iff _ (Cb.eq_iff a b).symm
def cCb (x:Cb):List AV:=[.u x.value.hi,.u x.value.lo,.u x.care.hi,.u x.care.lo]
theorem ES:bz Tryz.prog 36 4 (α:=Cb) cCb:=by
 refine⟨fun _=>rfl,fun a=>qV.1 rfl,fun H e w base spare held fuel cs x hx=>?_⟩
 obtain⟨m,hl,hp⟩:=cD Tryz.underlying36 hx
 have hl:cs.length=4:=hl.trans (by kernel_rfl)
 obtain⟨a0,h0⟩:=xm.part (hp 0 34 0 2 rfl (by kernel_rfl))
 obtain⟨a1,h1⟩:=xm.part (hp 1 34 2 2 rfl (by kernel_rfl))
 refine⟨⟨a0,a1⟩,PWs.all ?_⟩
 exact h0.join rfl (h1.join rfl (PWs.nil hl))
structure Ac where
 kind:Int
 port:Int
 table:Int
 set:Cb
theorem Ac.eq_iff (a b:Ac):a=b↔a.kind=b.kind/\a.port=b.port/\a.table=b.table/\a.set=b.set:=by
 cases a;cases b;simp
instance:DecidableEq Ac:=fun a b=>decidable_of_iff _ (Ac.eq_iff a b).symm
def cAc (x:Ac):List AV:=[.i .i64 x.kind,.i .i64 x.port,.i .i64 x.table,.u x.set.value.hi,.u x.set.value.lo,.u x.set.care.hi,.u x.set.care.lo]
theorem HN:bz Tryz.prog 55 7 (α:=Ac) cAc:=by
 refine⟨fun _=>rfl,fun a=>qV.1 rfl,fun H e w base spare held fuel cs x hx=>?_⟩
 obtain⟨m,hl,hp⟩:=cD Tryz.underlying55 hx
 have hl:cs.length=7:=hl.trans (by kernel_rfl)
 obtain⟨a0,h0⟩:=cA.part (hp 0 3 0 1 rfl (by kernel_rfl))
 obtain⟨a1,h1⟩:=cA.part (hp 1 3 1 1 rfl (by kernel_rfl))
 obtain⟨a2,h2⟩:=cA.part (hp 2 3 2 1 rfl (by kernel_rfl))
 obtain⟨a3,h3⟩:=ES.part (hp 3 36 3 4 rfl (by kernel_rfl))
 refine⟨⟨a0,a1,a2,a3⟩,PWs.all ?_⟩
 exact h0.join rfl (h1.join rfl (h2.join rfl (h3.join rfl (PWs.nil hl))))
structure Rl where
 prio:Int
 mat:Cb
 act:Ac
theorem Rl.eq_iff (a b:Rl):a=b↔a.prio=b.prio/\a.mat=b.mat/\a.act=b.act:=by
 cases a;cases b;simp
instance:DecidableEq Rl:=fun a b=>decidable_of_iff _ (Rl.eq_iff a b).symm
def cRl (x:Rl):List AV:=[.i .i64 x.prio,.u x.mat.value.hi,.u x.mat.value.lo,.u x.mat.care.hi,.u x.mat.care.lo,.i .i64 x.act.kind,.i .i64 x.act.port,.i .i64 x.act.table,.u x.act.set.value.hi,.u x.act.set.value.lo,.u x.act.set.care.hi,.u x.act.set.care.lo]
theorem E4:bz Tryz.prog 57 12 (α:=Rl) cRl:=by
 refine⟨fun _=>rfl,fun a=>qV.1 rfl,fun H e w base spare held fuel cs x hx=>?_⟩
 obtain⟨m,hl,hp⟩:=cD Tryz.underlying57 hx
 have hl:cs.length=12:=hl.trans (by kernel_rfl)
 obtain⟨a0,h0⟩:=cA.part (hp 0 3 0 1 rfl (by kernel_rfl))
 obtain⟨a1,h1⟩:=ES.part (hp 1 36 1 4 rfl (by kernel_rfl))
 obtain⟨a2,h2⟩:=HN.part (hp 2 55 5 7 rfl (by kernel_rfl))
 refine⟨⟨a0,a1,a2⟩,PWs.all ?_⟩
 exact h0.join rfl (h1.join rfl (h2.join rfl (PWs.nil hl)))
structure Pt where
 kind:Int
 tenant:Int
 peer:Int
 at_:Int
 cost:Int
theorem Pt.eq_iff (a b:Pt):a=b↔a.kind=b.kind/\a.tenant=b.tenant/\a.peer=b.peer/\a.at_=b.at_/\a.cost=b.cost:=by
 cases a;cases b;simp
instance:DecidableEq Pt:=fun a b=>decidable_of_iff _ (Pt.eq_iff a b).symm
def cPt (x:Pt):List AV:=[.i .i64 x.kind,.i .i64 x.tenant,.i .i64 x.peer,.i .i64 x.at_,.i .i64 x.cost]
theorem G6:bz Tryz.prog 114 5 (α:=Pt) cPt:=by
 refine⟨fun _=>rfl,fun a=>qV.1 rfl,fun H e w base spare held fuel cs x hx=>?_⟩
 obtain⟨m,hl,hp⟩:=cD Tryz.underlying114 hx
 have hl:cs.length=5:=hl.trans (by kernel_rfl)
 obtain⟨a0,h0⟩:=cA.part (hp 0 3 0 1 rfl (by kernel_rfl))
 obtain⟨a1,h1⟩:=cA.part (hp 1 3 1 1 rfl (by kernel_rfl))
 obtain⟨a2,h2⟩:=cA.part (hp 2 3 2 1 rfl (by kernel_rfl))
 obtain⟨a3,h3⟩:=cA.part (hp 3 3 3 1 rfl (by kernel_rfl))
 obtain⟨a4,h4⟩:=cA.part (hp 4 3 4 1 rfl (by kernel_rfl))
 refine⟨⟨a0,a1,a2,a3,a4⟩,PWs.all ?_⟩
 exact h0.join rfl (h1.join rfl (h2.join rfl (h3.join rfl (h4.join rfl (PWs.nil hl)))))
structure Sp where
 sw:Int
 port:Int
theorem Sp.eq_iff (a b:Sp):a=b↔a.sw=b.sw/\a.port=b.port:=by
 cases a;cases b;simp
instance:DecidableEq Sp:=fun a b=>decidable_of_iff _ (Sp.eq_iff a b).symm
def cSp (x:Sp):List AV:=[.i .i64 x.sw,.i .i64 x.port]
theorem GU:bz Tryz.prog 40 2 (α:=Sp) cSp:=by
 refine⟨fun _=>rfl,fun a=>qV.1 rfl,fun H e w base spare held fuel cs x hx=>?_⟩
 obtain⟨m,hl,hp⟩:=cD Tryz.underlying40 hx
 have hl:cs.length=2:=hl.trans (by kernel_rfl)
 obtain⟨a0,h0⟩:=cA.part (hp 0 3 0 1 rfl (by kernel_rfl))
 obtain⟨a1,h1⟩:=cA.part (hp 1 3 1 1 rfl (by kernel_rfl))
 refine⟨⟨a0,a1⟩,PWs.all ?_⟩
 exact h0.join rfl (h1.join rfl (PWs.nil hl))
structure Wy where
 fro:Int
 to:Int
 via:Int
theorem Wy.eq_iff (a b:Wy):a=b↔a.fro=b.fro/\a.to=b.to/\a.via=b.via:=by
 cases a;cases b;simp
instance:DecidableEq Wy:=fun a b=>decidable_of_iff _ (Wy.eq_iff a b).symm
def cWy (x:Wy):List AV:=[.i .i64 x.fro,.i .i64 x.to,.i .i64 x.via]
theorem GX:bz Tryz.prog 107 3 (α:=Wy) cWy:=by
 refine⟨fun _=>rfl,fun a=>qV.1 rfl,fun H e w base spare held fuel cs x hx=>?_⟩
 obtain⟨m,hl,hp⟩:=cD Tryz.underlying107 hx
 have hl:cs.length=3:=hl.trans (by kernel_rfl)
 obtain⟨a0,h0⟩:=cA.part (hp 0 3 0 1 rfl (by kernel_rfl))
 obtain⟨a1,h1⟩:=cA.part (hp 1 3 1 1 rfl (by kernel_rfl))
 obtain⟨a2,h2⟩:=cA.part (hp 2 3 2 1 rfl (by kernel_rfl))
 refine⟨⟨a0,a1,a2⟩,PWs.all ?_⟩
 exact h0.join rfl (h1.join rfl (h2.join rfl (PWs.nil hl)))
def cPr (x:Int × Int):List AV:=[.i .i64 x.1,.i .i64 x.2]
theorem Ip:bz Tryz.prog 105 2 (α:=Int × Int) cPr:=by
 refine⟨fun _=>rfl,fun a=>qV.1 rfl,fun H e w base spare held fuel cs x hx=>?_⟩
 obtain⟨m,hl,hp⟩:=tR Tryz.underlying105 hx
 have hl:cs.length=2:=hl.trans (by kernel_rfl)
 obtain⟨a0,h0⟩:=cA.part (hp 0 0 1 (by omega) (by kernel_rfl) rfl)
 obtain⟨a1,h1⟩:=cA.part (hp 1 1 1 (by omega) (by kernel_rfl) rfl)
 exact⟨(a0,a1),PWs.all (h0.join rfl (h1.join rfl (PWs.nil hl)))⟩
def aP (l:List Pt):List AV:=[.sl (l.map cPt)]
def bp (l:List Rl):List AV:=[.sl (l.map cRl)]
def bY (l:List (List Rl)):List AV:=[.sl (l.map bp)]
structure Gl where
 ports:List (List Pt)
def ic (x:Gl):List AV:=[.sl (x.ports.map aP)]
structure Pol where
 tenants:Int
 peers:List (Int × Int)
 ways:List Wy
def ur (x:Pol):List AV:=[.i .i64 x.tenants,.sl (x.peers.map cPr),.sl (x.ways.map cWy)]
structure Cf where
 topo:Gl
 pol:Pol
 tables:List (List (List Rl))
def cCf (x:Cf):List AV:=[.sl (x.topo.ports.map aP),.i .i64 x.pol.tenants,.sl (x.pol.peers.map cPr),.sl (x.pol.ways.map cWy),.sl (x.tables.map bY)]
structure Hop where
 sw:Int
 table:Int
 rule:Int
 head:Hd
theorem Hop.eq_iff (a b:Hop):a=b↔a.sw=b.sw/\a.table=b.table/\a.rule=b.rule/\a.head=b.head:=by
 cases a;cases b;simp
instance:DecidableEq Hop:=fun a b=>decidable_of_iff _ (Hop.eq_iff a b).symm
def dG (x:Hop):List AV:=[.i .i64 x.sw,.i .i64 x.table,.i .i64 x.rule,.u x.head.hi,.u x.head.lo]
structure Run where
 fin:Int
 at_:Sp
 hops:List Hop
def mw (x:Run):List AV:=[.i .i64 x.fin,.i .i64 x.at_.sw,.i .i64 x.at_.port,.sl (x.hops.map dG)]
structure Vd where
 kind:Int
 e:Int
 why:Int
 fro:Sp
 head:Hd
 run:Run
def cVd (x:Vd):List AV:=[.i .i64 x.kind,.i .i64 x.e,.i .i64 x.why,.i .i64 x.fro.sw,.i .i64 x.fro.port,.u x.head.hi,.u x.head.lo,.i .i64 x.run.fin,.i .i64 x.run.at_.sw,.i .i64 x.run.at_.port,.sl (x.run.hops.map dG)]
def cI (x:Int):List AV:=[.i .i64 x]
structure aG where
 ids:List Int
 head:Hd
 pile:List Cb
def av (x:aG):List AV:=[.sl (x.ids.map cI),.u x.head.hi,.u x.head.lo,.sl (x.pile.map cCb)]
end Go.Proofs.YtdidjpohnopihaaGreat.Sm
end
section
namespace Go.Proofs.YtdidjpohnopihaaGreat.Sm
open Go.RowKit
def Cp (a b:UInt64):UInt64:=UInt64.ofNat ((a.toNat+18446744073709551616-b.toNat) % 18446744073709551616)
def C9 (a b:UInt64):UInt64:=UInt64.ofNat (if a.toNat<b.toNat then 1 else 0)
theorem Bg {P:Program}{N:Nat}{o:Oper}{s:St}{c:Call}{f:FuncId}{fn:Func}{x y z:Operand}{a b:UInt64}(ho:o.op = .call c)(hc:c.callee = .value (.func f))(ha:c.args = #[x,y,z])(hx:s.ev x = .u a)(hy:s.ev y = .u b)(hz:s.ev z = .u 0)
  (hf : P.funcs[f]? = some fn) (hname : (fn.name == "runtime.NumGoroutine") = false) (hb : fn.body.isNone = true) (hn : Extern.findNext fn = none) (he : Extern.find fn = some sub64Entry) : ax P N o s ⟨.tup [.u (Cp a b), .u (C9 a b)], [], []⟩ := by
 refine az [] _ fun s' W F μ ac g1 g2 hs=>?_
 have opers:o.op.operands.toList=[.func f,x,y,z]:=by rw [ho];simp [Op.operands,Call.operands,hc,ha]
 have ex:=hs.ev x
 rw [g1 x (by rw [opers];simp),hx] at ex
 have ey:=hs.ev y
 rw [g1 y (by rw [opers];simp),hy] at ey
 have ez:=hs.ev z
 rw [g1 z (by rw [opers];simp),hz] at ez
 have key:=run_sub64 (P:=P) a.toNat b.toNat 0 (by omega) W
 have h1:(Cp a b).toNat=(a.toNat+18446744073709551616-b.toNat-0) % 18446744073709551616:=by
  rw [Cp,UInt64.toNat_ofNat']
  omega
 have h2:(C9 a b).toNat=(if a.toNat<b.toNat+0 then 1 else 0):=by
  rw [C9,UInt64.toNat_ofNat',Nat.add_zero]
  split <;> rfl
 rw [<- h1,<- h2] at key
 refine⟨_,?_,.tup [.u _,.u _] [_,_] rfl (aQ (.pure (.u _)) (aQ (.pure (.u _)) cP))⟩
 have e0:(.int .u64 ((0:UInt64).toNat:Int):Value) = .int .u64 ((0:Nat):Int):=rfl
 have ef:ac.eval (.func f) = .func (.func f) #[] #[]:=rfl
 simp only [execOp,ho,resolve,hc,ha,List.map_toArray,vE,List.map_nil,kA2,invoke,ex.u',ey.u',ez.u',e0,ef]
 show Sem.run P (callFunc f #[.int .u64 (a.toNat:Int),.int .u64 (b.toNat:Int),.int .u64 ((0:Nat):Int)]) W=_
 rw [run_callFunc_extern hf hname hb hn he,key]
 rfl
def Hd.and (a b:Hd):Hd:=⟨a.hi &&& b.hi,a.lo &&& b.lo⟩
def Hd.or (a b:Hd):Hd:=⟨a.hi ||| b.hi,a.lo ||| b.lo⟩
def Hd.xor (a b:Hd):Hd:=⟨a.hi ^^^ b.hi,a.lo ^^^ b.lo⟩
def Hd.less (a b:Hd):Hd:=⟨a.hi &&& ~~~b.hi,a.lo &&& ~~~b.lo⟩
theorem uy (a b:Hd):aa Tryz.prog 216 [.agg (cHd a),.agg (cHd b)] (.agg (cHd (a.and b))):=by
 refine jb Tryz.func216 ?_
 refine zR ?_
 rfl
theorem pM (a b:Hd):aa Tryz.prog 215 [.agg (cHd a),.agg (cHd b)] (.agg (cHd (a.or b))):=by
 refine jb Tryz.func215 ?_
 refine zR ?_
 rfl
theorem tM (a b:Hd):aa Tryz.prog 221 [.agg (cHd a),.agg (cHd b)] (.agg (cHd (a.xor b))):=by
 refine jb Tryz.func221 ?_
 refine zR ?_
 rfl
theorem lO (a b:Hd):aa Tryz.prog 139 [.agg (cHd a),.agg (cHd b)] (.agg (cHd (a.less b))):=by
 refine jb Tryz.func139 ?_
 refine zR ?_
 rfl
theorem qp (f:Nat)(a b c:Hd)(h:aa Tryz.prog f [.agg (cHd a),.agg (cHd b)] (.agg (cHd c))):aa Tryz.prog 138 [.fn f [] [],.agg (cHd a),.agg (cHd b)] (.agg (cHd c)):=by
 refine jb Tryz.func138 ?_
 refine jA ?_
 refine jc h ?_
 refine zH ?_
 rfl
theorem pL (a b:Hd):aa Tryz.prog 172 [.agg (cHd a),.agg (cHd b)] (.agg (cHd (a.and b))):=by
 refine jb Tryz.func172 ?_
 refine jA ?_
 refine RG.callS rfl rfl rfl rfl rfl (qp _ a b _ (uy a b)) rfl rfl ?_
 refine zH ?_
 rfl
theorem A5 (a b:Hd):aa Tryz.prog 171 [.agg (cHd a),.agg (cHd b)] (.agg (cHd (a.or b))):=by
 refine jb Tryz.func171 ?_
 refine jA ?_
 refine RG.callS rfl rfl rfl rfl rfl (qp _ a b _ (pM a b)) rfl rfl ?_
 refine zH ?_
 rfl
theorem EQ (a b:Hd):aa Tryz.prog 180 [.agg (cHd a),.agg (cHd b)] (.agg (cHd (a.xor b))):=by
 refine jb Tryz.func180 ?_
 refine jA ?_
 refine RG.callS rfl rfl rfl rfl rfl (qp _ a b _ (tM a b)) rfl rfl ?_
 refine zH ?_
 rfl
theorem mR (a b:Hd):aa Tryz.prog 102 [.agg (cHd a),.agg (cHd b)] (.agg (cHd (a.less b))):=by
 refine jb Tryz.func102 ?_
 refine jA ?_
 refine RG.callS rfl rfl rfl rfl rfl (qp _ a b _ (lO a b)) rfl rfl ?_
 refine zH ?_
 rfl
def Hd.left (a:Hd)(n:Nat):Hd:=if 64<=n then ⟨ct a.lo (n-64),0⟩ else ⟨ct a.hi n ||| cj a.lo (64-n),ct a.lo n⟩
def Hd.right (a:Hd)(n:Nat):Hd:=if 64<=n then ⟨0,cj a.hi (n-64)⟩ else ⟨cj a.hi n,cj a.lo n ||| ct a.hi (64-n)⟩
theorem shI {z:Int}{k:Nat}(h:z=(k:Nat))(hk:k<=128):(bQ z).toNat=k:=by
 have:=eB z
 rw [IntKind.wrap_u64] at this
 omega
theorem shn (n k:Nat)(h:n<=128)(hk:k<=n):(bQ (IntKind.i64.wrap ((n:Int)-Int.ofNat k))).toNat=n-k:=by
 refine shI ?_ (by omega)
 rw [kA0]
 simp only [qH]
 omega
theorem shk (n k:Nat)(h:k<=128)(hk:n<=k):(bQ (IntKind.i64.wrap (Int.ofNat k-(n:Int)))).toNat=k-n:=by
 refine shI ?_ (by omega)
 rw [kA0]
 simp only [qH]
 omega
theorem sh0 (n:Nat)(h:n<=128):(bQ (n:Int)).toNat=n:=shI rfl h
theorem qz (a:Hd)(n:Nat)(hn:n<=128):aa Tryz.prog 214 [.agg (cHd a),.i .i64 n] (.agg (cHd (a.left n))):=by
 refine jb Tryz.func214 ?_
 refine jA ?_
 refine AW.cond rfl (fun h=>?_) (fun h=>?_)
 ·have h:64<=n:=Int.ofNat_le.1 (of_decide_eq_true h)
  refine zR ?_
  rw [Hd.left,if_pos h,shn n 64 hn h]
  rfl
 ·have h:¬64<=n:=fun h'=>of_decide_eq_false h (Int.ofNat_le.2 h')
  refine zR ?_
  rw [Hd.left,if_neg h,shk n 64 (by omega) (by omega),sh0 n hn]
  rfl
theorem CC (a:Hd)(n:Nat)(hn:n<=128):aa Tryz.prog 191 [.agg (cHd a),.i .i64 n] (.agg (cHd (a.right n))):=by
 refine jb Tryz.func191 ?_
 refine jA ?_
 refine AW.cond rfl (fun h=>?_) (fun h=>?_)
 ·have h:64<=n:=Int.ofNat_le.1 (of_decide_eq_true h)
  refine zR ?_
  rw [Hd.right,if_pos h,shn n 64 hn h]
  rfl
 ·have h:¬64<=n:=fun h'=>of_decide_eq_false h (Int.ofNat_le.2 h')
  refine zR ?_
  rw [Hd.right,if_neg h,shk n 64 (by omega) (by omega),sh0 n hn]
  rfl
theorem xO (at_ size most:Nat)(h1:size<=most)(h2:at_+size<=128):aa Tryz.prog 212 [.i .i64 at_,.i .i64 size,.i .i64 most] (.b true):=by
 refine jb Tryz.func212 ?_
 refine jB ?_;refine wF ?_;refine wH rfl ?_;refine jB ?_
 refine AW.text ?_
 have e3:IntKind.i64.wrap (Int.ofNat 128-(size:Int))=128-(size:Int):=by rw [kA0];simp only [qH];omega
 refine RG.runO ae 0 [(8,.b true),(11,.b true),(16,.b true),(22,.b true)] 400 rfl ⟨congrArg AV.b (qE ?_),congrArg AV.b (qE ?_),congrArg AV.b (qE ?_),congrArg AV.b (qE ?_),trivial⟩ ?_
 ·rw [e3];omega
 ·omega
 ·exact Int.natCast_nonneg _
 ·exact Int.natCast_nonneg _
 refine jB ?_
 refine AW.ret (G9 rfl rfl ?_)
 rfl
def vm (n:Nat):Hd:=if 128<=n then ⟨18446744073709551615,18446744073709551615⟩ else ⟨((Hd.mk 0 1).left n).hi-C9 ((Hd.mk 0 1).left n).lo 1,Cp ((Hd.mk 0 1).left n).lo 1⟩
theorem yT (n:Nat)(hn:n<=128):aa Tryz.prog 213 [.i .i64 n] (.agg (cHd (vm n))):=by
 refine jb Tryz.func213 ?_
 refine jA ?_
 refine AW.cond rfl (fun h=>?_) (fun h=>?_)
 ·have h:128<=n:=Int.ofNat_le.1 (of_decide_eq_true h)
  refine zR ?_
  rw [vm,if_pos h]
  rfl
 ·have h:¬128<=n:=fun h'=>of_decide_eq_false h (Int.ofNat_le.2 h')
  refine jA ?_
  refine jc (qz ⟨0,1⟩ n hn) ?_
  refine jH ?_
  refine RG.opE rfl (.inr (.inr ⟨_,_,_,_,rfl,rfl,Tryz.func243,by kernel_rfl,by kernel_rfl,by kernel_rfl,(by kernel_rfl:_=some sub64Entry)⟩)) (Bg rfl rfl rfl rfl rfl rfl Tryz.func243 (by kernel_rfl) (by kernel_rfl) (by kernel_rfl) (by kernel_rfl)) rfl ?_
  refine zH ?_
  rw [vm,if_neg h]
  rfl
def bO (at_ size:Nat):Hd:=(vm size).left at_
theorem BR (at_ size:Nat)(h:at_+size<=128):aa Tryz.prog 169 [.i .i64 at_,.i .i64 size] (.tup [.agg (cHd (bO at_ size)),.i .i64 0]):=by
 refine jb Tryz.func169 ?_
 refine jA ?_
 refine RG.callS rfl rfl rfl rfl rfl (xO at_ size 128 (by omega) h) rfl rfl ?_
 refine jH ?_;refine zF ?_
 refine RG.callS rfl rfl rfl rfl rfl (yT size (by omega)) rfl rfl ?_
 refine jH ?_
 refine RG.callS rfl rfl rfl rfl rfl (qz _ at_ (by omega)) rfl rfl ?_
 refine zH ?_
 rfl
def Hd.bit (a:Hd)(n:Nat):Bool:=decide ((a.right n).lo &&& 1=1)
theorem wg (a:Hd)(n:Nat)(hn:n<128):aa Tryz.prog 140 [.agg (cHd a),.i .i64 n] (.b (a.bit n)):=by
 refine jb Tryz.func140 ?_
 refine jB ?_;refine wF ?_;refine wH rfl ?_;refine jB ?_
 refine AW.text ?_
 refine RG.runO ae 0 [(6,.b true),(9,.b true)] 400 rfl ⟨congrArg AV.b (qE ?_),congrArg AV.b (qE ?_),trivial⟩ ?_
 ·exact Int.ofNat_lt.2 hn
 ·exact Int.natCast_nonneg _
 refine RG.callS rfl rfl rfl rfl rfl (CC a n (by omega)) rfl rfl ?_
 refine zH ?_
 rfl
def Hd.put (a:Hd)(at_ size:Nat)(v:UInt64):Hd:=(a.less (bO at_ size)).or ((Hd.mk 0 v).left at_)
theorem Fa (a:Hd)(at_ size:Nat)(v:UInt64)(h:at_+size<=128)(h2:size<=64)(hv:v &&& ~~~(vm size).lo=0):aa Tryz.prog 170 [.agg (cHd a),.i .i64 at_,.i .i64 size,.u v] (.tup [.agg (cHd (a.put at_ size v)),.i .i64 0]):=by
 refine jb Tryz.func170 ?_
 refine jA ?_
 refine jc (xO at_ size 64 h2 h) ?_
 refine jH ?_;refine zF ?_
 refine RG.callS rfl rfl rfl rfl rfl (yT size (by omega)) rfl rfl ?_
 refine RG.runO ae 0 [(23,.b false)] 400 rfl ⟨congrArg (fun b=>AV.b (!b)) (qE hv),trivial⟩ ?_
 refine jA ?_;refine zF ?_
 refine RG.callS rfl rfl rfl rfl rfl (yT size (by omega)) rfl rfl ?_
 refine jH ?_
 refine RG.callS rfl rfl rfl rfl rfl (qz _ at_ (by omega)) rfl rfl ?_
 refine jH ?_
 refine RG.callS rfl rfl rfl rfl rfl (lO a _) rfl rfl ?_
 refine jH ?_
 refine RG.callS rfl rfl rfl rfl rfl (qz ⟨0,v⟩ at_ (by omega)) rfl rfl ?_
 refine jH ?_
 refine RG.callS rfl rfl rfl rfl rfl (pM _ _) rfl rfl ?_
 refine zH ?_
 rfl
def GT (a:UInt64):UInt64 :=
 let x1:=(cj a 1 &&& 6148914691236517205)+(a &&& 6148914691236517205)
 let x2:=(cj x1 2 &&& 3689348814741910323)+(x1 &&& 3689348814741910323)
 let x3:=(cj x2 4+x2) &&& 1085102592571150095
 let x4:=x3+cj x3 8
 let x5:=x4+cj x4 16
 x5+cj x5 32
def AA (a:UInt64):Int:=IntKind.i64.wrap ((BitVec.ofInt 64 (IntKind.i64.wrap (GT a).toNat) &&& BitVec.ofInt 64 127).toNat)
theorem mc (a:UInt64):aa Tryz.prog 183 [.u a] (.i .i64 (AA a)):=by
 refine jb Tryz.func183 ?_
 refine zR ?_
 rfl
def Hd.ones (a:Hd):Int:=IntKind.i64.wrap (AA a.hi+AA a.lo)
theorem AI (a:Hd):aa Tryz.prog 131 [.agg (cHd a)] (.i .i64 a.ones):=by
 refine jb Tryz.func131 ?_
 refine jB ?_;refine wF ?_;refine wH rfl ?_;refine jB ?_
 refine AW.draws aJ ?_
 refine wH rfl ?_
 refine jc (mc a.hi) ?_
 refine wH rfl ?_
 refine jc (mc a.lo) ?_
 refine zH ?_
 rfl
theorem E2 (a b:Hd):eqA tyT 6 34 (.agg (cHd a)) (.agg (cHd b))=some (decide (a=b)):=by
 show some (decide (a.hi=b.hi) && (decide (a.lo=b.lo) && true))=_
 congr 1
 rw [Bool.eq_iff_iff]
 simp [Hd.eq_iff,and_assoc]
theorem oQ (a b:Cb):eqA tyT 6 36 (.agg (cCb a)) (.agg (cCb b))=some (decide (a=b)):=by
 show some ((decide (a.value.hi=b.value.hi) && (decide (a.value.lo=b.value.lo) && true)) && ((decide (a.care.hi=b.care.hi) && (decide (a.care.lo=b.care.lo) && true)) && true))=_
 congr 1
 rw [Bool.eq_iff_iff]
 simp [Cb.eq_iff,Hd.eq_iff,and_assoc]
theorem wq (a b:Pt):eqA tyT 6 114 (.agg (cPt a)) (.agg (cPt b))=some (decide (a=b)):=by
 show some (decide (a.kind=b.kind) && (decide (a.tenant=b.tenant) && (decide (a.peer=b.peer) && (decide (a.at_=b.at_) && (decide (a.cost=b.cost) && true)))))=_
 congr 1
 rw [Bool.eq_iff_iff]
 simp [Pt.eq_iff,and_assoc]
theorem Bj (a b:Sp):eqA tyT 6 40 (.agg (cSp a)) (.agg (cSp b))=some (decide (a=b)):=by
 show some (decide (a.sw=b.sw) && (decide (a.port=b.port) && true))=_
 congr 1
 rw [Bool.eq_iff_iff]
 simp [Sp.eq_iff,and_assoc]
theorem AU (a b:Int × Int):eqA tyT 6 105 (.agg (cPr a)) (.agg (cPr b))=some (decide (a=b)):=by
 show some (decide (a.1=b.1) && (decide (a.2=b.2) && true))=_
 congr 1
 rw [Bool.eq_iff_iff]
 simp [Prod.ext_iff,and_assoc]
def Hd.zero:Hd:=⟨0,0⟩
def Hd.none (h:Hd):Bool:=decide (h=Hd.zero)
theorem iz (h:Hd)(r:Bool)(hr:h.none=r):aa Tryz.prog 101 [.agg (cHd h)] (.b r):=by
 refine jb Tryz.func101 ?_
 refine jA ?_
 refine RG.opS rfl (eG rfl ae (by kernel_rfl) (by kernel_rfl) rfl rfl (E2 h Hd.zero) hr) rfl ?_
 refine zH ?_
 rfl
def Cb.zero:Cb:=⟨Hd.zero,Hd.zero⟩
def Cb.sound (c:Cb):Bool:=(c.value.less c.care).none
theorem aV (c:Cb)(r:Bool)(hr:c.sound=r):aa Tryz.prog 59 [.agg (cCb c)] (.b r):=by
 refine jb Tryz.func59 ?_
 refine jA ?_
 refine jc (mR c.value c.care) ?_;refine jH ?_
 refine RG.callS rfl rfl rfl rfl rfl (iz _ r hr) rfl rfl ?_;refine jH ?_
 exact zS
theorem HA:aa Tryz.prog 85 [] (.agg (cCb Cb.zero)):=by
 refine jb Tryz.func85 ?_
 refine zR ?_
 rfl
def Cb.make (value care:Hd):Cb:=⟨value.and care,care⟩
theorem ul (value care:Hd):aa Tryz.prog 129 [.agg (cHd value),.agg (cHd care)] (.agg (cCb (Cb.make value care))):=by
 refine jb Tryz.func129 ?_
 refine jA ?_
 refine jc (pL value care) ?_;refine jH ?_
 exact zS
def Cb.has (c:Cb)(h:Hd):Bool:=c.sound && decide (h.and c.care=c.value)
theorem E1 (c:Cb)(h:Hd)(r:Bool)(hr:c.has h=r):aa Tryz.prog 227 [.agg (cCb c),.agg (cHd h)] (.b r):=by
 subst hr
 refine jb Tryz.func227 ?_
 refine jA ?_
 cases h1:c.sound
 ·refine RG.callS rfl rfl rfl rfl rfl (aV c _ h1) rfl rfl ?_;refine jH ?_
  refine jR ?_
  exact congrArg AV.b (by simp [Cb.has,h1])
 ·refine RG.callS rfl rfl rfl rfl rfl (aV c _ h1) rfl rfl ?_;refine jH ?_
  refine jc (pL h c.care) ?_;refine jH ?_
  refine RG.opS rfl (eG rfl ae (by kernel_rfl) (by kernel_rfl) rfl rfl (E2 (h.and c.care) c.value) rfl) rfl ?_
  refine zH ?_
  exact congrArg AV.b (by simp [Cb.has,h1])
def Cb.apart (a b:Cb):Hd:=(a.value.xor b.value).and (a.care.and b.care)
theorem rg (a b:Cb):aa Tryz.prog 128 [.agg (cCb a),.agg (cCb b)] (.agg (cHd (a.apart b))):=by
 refine jb Tryz.func128 ?_
 refine jA ?_
 refine jc (EQ a.value b.value) ?_;refine jH ?_
 refine jc (pL a.care b.care) ?_;refine jH ?_
 refine RG.callS rfl rfl rfl rfl rfl (pL _ _) rfl rfl ?_;refine jH ?_
 exact zS
def Cb.meets (a b:Cb):Bool:=a.sound && b.sound && (a.apart b).none
def Cb.met (a b:Cb):Cb:=⟨a.value.or b.value,a.care.or b.care⟩
theorem ri (a b:Cb)(r:Bool)(hr:a.meets b=r):aa Tryz.prog 223 [.agg (cCb a),.agg (cCb b)] (.tup [.agg (cCb (cond r (a.met b) Cb.zero)),.b r]):=by
 subst hr
 refine jb Tryz.func223 ?_
 refine jA ?_
 cases h1:a.sound
 ·rw [show a.meets b=false by simp [Cb.meets,h1]]
  refine RG.callS rfl rfl rfl rfl rfl (aV a _ h1) rfl rfl ?_;refine jH ?_
  refine zT ?_
  exact zS
 refine RG.callS rfl rfl rfl rfl rfl (aV a _ h1) rfl rfl ?_;refine jH ?_
 cases h2:b.sound
 ·rw [show a.meets b=false by simp [Cb.meets,h2]]
  refine RG.callS rfl rfl rfl rfl rfl (aV b _ h2) rfl rfl ?_;refine jH ?_
  refine zT ?_
  exact zS
 refine RG.callS rfl rfl rfl rfl rfl (aV b _ h2) rfl rfl ?_;refine jH ?_
 refine jc (rg a b) ?_;refine jH ?_
 cases h3:(a.apart b).none
 ·rw [show a.meets b=false by simp [Cb.meets,h3]]
  refine RG.callS rfl rfl rfl rfl rfl (iz _ _ h3) rfl rfl ?_;refine jH ?_
  refine zT ?_
  exact zS
 rw [show a.meets b=true by simp [Cb.meets,h1,h2,h3]]
 refine RG.callS rfl rfl rfl rfl rfl (iz _ _ h3) rfl rfl ?_;refine jH ?_
 refine zF ?_
 refine jc (A5 a.value b.value) ?_;refine jH ?_
 refine jc (A5 a.care b.care) ?_;refine jH ?_
 exact zS
def Cb.within (a b:Cb):Bool:=a.sound && b.sound && (b.care.less a.care).none && (a.apart b).none
theorem tz (a b:Cb)(r:Bool)(hr:a.within b=r):aa Tryz.prog 255 [.agg (cCb a),.agg (cCb b)] (.b r):=by
 subst hr
 refine jb Tryz.func255 ?_
 refine jA ?_
 cases h1:a.sound
 ·refine RG.callS rfl rfl rfl rfl rfl (aV a _ h1) rfl rfl ?_;refine jH ?_
  refine jR ?_
  exact congrArg AV.b (by simp [Cb.within,h1])
 refine RG.callS rfl rfl rfl rfl rfl (aV a _ h1) rfl rfl ?_;refine jH ?_
 cases h2:b.sound
 ·refine RG.callS rfl rfl rfl rfl rfl (aV b _ h2) rfl rfl ?_;refine jH ?_
  refine jR ?_
  exact congrArg AV.b (by simp [Cb.within,h2])
 refine RG.callS rfl rfl rfl rfl rfl (aV b _ h2) rfl rfl ?_;refine jH ?_
 refine jc (mR b.care a.care) ?_;refine jH ?_
 cases h3:(b.care.less a.care).none
 ·refine RG.callS rfl rfl rfl rfl rfl (iz _ _ h3) rfl rfl ?_;refine jH ?_
  refine jR ?_
  exact congrArg AV.b (by simp [Cb.within,h3])
 refine RG.callS rfl rfl rfl rfl rfl (iz _ _ h3) rfl rfl ?_;refine jH ?_
 refine jc (rg a b) ?_;refine jH ?_
 refine RG.callS rfl rfl rfl rfl rfl (iz _ _ rfl) rfl rfl ?_;refine jH ?_
 refine jR ?_
 exact congrArg AV.b (by simp [Cb.within,h1,h2,h3])
def Hd.set (h:Hd)(c:Cb):Hd:=(h.less c.care).or (c.value.and c.care)
theorem E8 (h:Hd)(c:Cb):aa Tryz.prog 119 [.agg (cHd h),.agg (cCb c)] (.agg (cHd (h.set c))):=by
 refine jb Tryz.func119 ?_
 refine jA ?_
 refine jc (mR h c.care) ?_;refine jH ?_
 refine jc (pL c.value c.care) ?_;refine jH ?_
 refine RG.callS rfl rfl rfl rfl rfl (A5 _ _) rfl rfl ?_;refine jH ?_
 exact zS
def Cb.hits (c set:Cb):Bool:=c.sound && (c.apart (Cb.make set.value set.care)).none
def Cb.before (c set:Cb):Cb:=Cb.make c.value (c.care.less set.care)
theorem sX (c set:Cb)(r:Bool)(hr:c.hits set=r):aa Tryz.prog 79 [.agg (cCb c),.agg (cCb set)] (.tup [.agg (cCb (cond r (c.before set) Cb.zero)),.b r]):=by
 subst hr
 refine jb Tryz.func79 ?_
 refine jA ?_
 cases h1:c.sound
 ·rw [show c.hits set=false by simp [Cb.hits,h1]]
  refine RG.callS rfl rfl rfl rfl rfl (aV c _ h1) rfl rfl ?_;refine jH ?_
  refine zT ?_
  exact zS
 refine RG.callS rfl rfl rfl rfl rfl (aV c _ h1) rfl rfl ?_;refine jH ?_
 refine jc (ul set.value set.care) ?_;refine jH ?_
 refine jc (rg c (Cb.make set.value set.care)) ?_;refine jH ?_
 cases h3:(c.apart (Cb.make set.value set.care)).none
 ·rw [show c.hits set=false by simp [Cb.hits,h3]]
  refine RG.callS rfl rfl rfl rfl rfl (iz _ _ h3) rfl rfl ?_;refine jH ?_
  refine zT ?_
  exact zS
 rw [show c.hits set=true by simp [Cb.hits,h1,h3]]
 refine RG.callS rfl rfl rfl rfl rfl (iz _ _ h3) rfl rfl ?_;refine jH ?_
 refine zF ?_
 refine jc (mR c.care set.care) ?_;refine jH ?_
 refine RG.callS rfl rfl rfl rfl rfl (ul c.value _) rfl rfl ?_;refine jH ?_
 exact zS
theorem jl (k:Nat)(h:k<=1000000000):AV.i .i64 (IntKind.i64.wrap ((k:Int)-Int.ofNat 1)) = .i .i64 ((k:Int)-1):=by
 rw [kA0]
 simp only [qH]
 congr 1
 omega
def ii (b:Cb)(more:Hd):Nat->Cb->List Cb->List Cb
 |0,_,out=>out
 |n+1,rest,out=>cond (more.bit n) (ii b more n ⟨rest.value.or (b.value.and (bO n 1)),rest.care.or (bO n 1)⟩ (out++[⟨(rest.value.or (b.value.and (bO n 1))).xor (bO n 1),rest.care.or (bO n 1)⟩])) (ii b more n rest out)
def Cb.less (a b:Cb):List Cb:=cond (a.sound && b.sound) (cond (a.meets b) (ii b (b.care.less a.care) 128 a []) [a]) []
theorem DT (a b:Cb):aa Tryz.prog 226 [.agg (cCb a),.agg (cCb b)] (.sl ((a.less b).map cCb)):=by
 refine jb Tryz.func226 ?_
 refine jA ?_
 cases h1:a.sound
 ·rw [show a.less b=[] by simp [Cb.less,h1]]
  refine RG.callS rfl rfl rfl rfl rfl (aV a _ h1) rfl rfl ?_;refine jH ?_
  refine zT ?_
  exact zS
 refine RG.callS rfl rfl rfl rfl rfl (aV a _ h1) rfl rfl ?_;refine jH ?_
 cases h2:b.sound
 ·rw [show a.less b=[] by simp [Cb.less,h2]]
  refine RG.callS rfl rfl rfl rfl rfl (aV b _ h2) rfl rfl ?_;refine jH ?_
  refine zT ?_
  exact zS
 refine RG.callS rfl rfl rfl rfl rfl (aV b _ h2) rfl rfl ?_;refine jH ?_
 refine zF ?_
 cases h3:a.meets b
 ·rw [show a.less b=[a] by simp [Cb.less,h1,h2,h3]]
  refine RG.callS rfl rfl rfl rfl rfl (ri a b _ h3) rfl rfl ?_;refine jH ?_
  refine zT ?_
  exact zS
 rw [show a.less b=ii b (b.care.less a.care) 128 a [] by simp [Cb.less,h1,h2,h3]]
 refine RG.callS rfl rfl rfl rfl rfl (ri a b _ h3) rfl rfl ?_
 refine wH rfl ?_;refine jB ?_;refine wF ?_;refine wH rfl ?_;refine jB ?_;refine AW.condF rfl ?_;refine jB ?_
 refine AW.text ?_
 refine RG.opS rfl (bT 7 36 4 rfl) rfl ?_
 refine jH ?_
 refine jc (mR b.care a.care) ?_;refine jH ?_
 generalize b.care.less a.care=more
 refine AW.loopL (ι:=Nat × Cb × List Cb) (fun i=>[(3,.own 3 0 0),(7,.row 7 0 0 (i.2.2.map cCb).length),(8,.own 8 0 0),(9,.own 9 0 0),(10,.i .i64 ((i.1:Int)-1))]) (fun i=>[(3,⟨0,some (.box 36 (cCb b))⟩),(7,⟨0,some (.row 36 4 (i.2.2.map cCb))⟩),(8,⟨0,some (.box 34 (cHd more))⟩),(9,⟨0,some (.box 36 (cCb i.2.1))⟩)]) (fun i=>i.1<=128/\i.2.2.length<=128-i.1/\ii b more i.1 i.2.1 i.2.2=ii b more 128 a []) (fun i=>i.1) (128,a,[]) ⟨qJ _,qJ _,rfl⟩ jW jW fun i hi=>?_
 obtain⟨n,rest,out⟩:=i
 obtain⟨hn,hl,hf⟩:=hi
 simp only at hn hl hf
 refine jA ?_
 refine AW.cond rfl (fun h=>?_) (fun h=>?_)
 ·obtain⟨k,rfl⟩:∃k,n=k+1:=⟨n-1,by have:=of_decide_eq_true h;simp only [qH] at this;omega⟩
  have hnx:AV.i .i64 (IntKind.i64.wrap ((((k+1:Nat):Int)-1)-1)) = .i .i64 ((k:Nat)-1:Int):=by
   rw [kA0]
   congr 1
   omega
  have hk:(((k+1:Nat):Int)-1)=(k:Nat):=by omega
  refine AW.only [(3,.own 3 0 0),(7,.row 7 0 0 (out.map cCb).length),(8,.own 8 0 0),(9,.own 9 0 0),(10,.i .i64 (k:Nat))] [(3,⟨0,some (.box 36 (cCb b))⟩),(7,⟨0,some (.row 36 4 (out.map cCb))⟩),(8,⟨0,some (.box 34 (cHd more))⟩),(9,⟨0,some (.box 36 (cCb rest))⟩)] ⟨Rn.ownIs rfl rfl rfl,Rn.rowIs rfl rfl rfl,Rn.ownIs rfl rfl rfl,Rn.ownIs rfl rfl rfl,.is (congrArg _ hk) rfl,trivial⟩ jW ?_
  have hb:=wg more k (by omega)
  generalize hq:more.bit k=q at hb
  rw [ii,hq] at hf
  refine jA ?_
  refine jc hb ?_;refine jH ?_
  cases q
  ·refine zT ?_
   refine jE ?_;refine jA ?_
   exact⟨(k,rest,out),⟨⟨(show k<=128 by omega),(show out.length<=128-k by omega),hf⟩,Nat.lt_succ_self k⟩,⟨Rn.ownIs rfl rfl rfl,Rn.rowIs rfl rfl rfl,Rn.ownIs rfl rfl rfl,Rn.ownIs rfl rfl rfl,.is (jl k (by omega)) rfl,trivial⟩,jW⟩
  ·refine zF ?_
   refine RG.callS rfl rfl rfl rfl rfl (BR k 1 (by omega)) rfl rfl ?_;refine jH ?_
   refine jc (pL b.value (bO k 1)) ?_;refine jH ?_
   refine RG.callS rfl rfl rfl rfl rfl (A5 rest.value _) rfl rfl ?_;refine jH ?_
   refine jc (A5 rest.care (bO k 1)) ?_;refine jH ?_
   refine RG.callS rfl rfl rfl rfl rfl (EQ _ (bO k 1)) rfl rfl ?_;refine jH ?_
   refine RG.opS rfl (bI cCb out ⟨(rest.value.or (b.value.and (bO k 1))).xor (bO k 1),rest.care.or (bO k 1)⟩ (by omega) rfl rfl rfl rfl (tk rfl) rfl (tk rfl) rfl rfl ⟨_,rfl,rfl⟩ rfl rfl) rfl ?_;refine jH ?_
   exact⟨(k,_,_),⟨⟨by omega,by simp only [qK,vP];omega,hf⟩,Nat.lt_succ_self k⟩,⟨Rn.ownIs rfl rfl rfl,Rn.rowIs rfl rfl rfl,Rn.ownIs rfl rfl rfl,Rn.ownIs rfl rfl rfl,.is (jl k (by omega)) rfl,trivial⟩,jW⟩
 ·obtain rfl:n = 0 := by
   have:=of_decide_eq_false h
   simp only [qH] at this
   omega
  refine zE ?_
  refine jR ?_
  exact bw (congrArg (List.map cCb) hf)
def Hd.b (h:Hd)(i:Nat):Bool:=if i<64 then h.lo.toBitVec.getLsbD i else h.hi.toBitVec.getLsbD (i-64)
theorem Hd.b_hi (h:Hd)(i:Nat)(hi:128<=i):h.b i=false:=by
 rw [Hd.b,if_neg (by omega)]
 exact BitVec.getLsbD_of_ge _ _ (by omega)
theorem Hd.ext_b {h g:Hd}(H:∀i,h.b i=g.b i):h=g:=by
 obtain⟨h1,h2⟩:=h
 obtain⟨g1,g2⟩:=g
 rw [Hd.eq_iff]
 constructor
 ·apply UInt64.toBitVec_inj.1
  apply BitVec.eq_of_getLsbD_eq
  intro i hi
  have:=H (i+64)
  rw [Hd.b,Hd.b,if_neg (by omega),if_neg (by omega)] at this
  simpa using this
 ·apply UInt64.toBitVec_inj.1
  apply BitVec.eq_of_getLsbD_eq
  intro i hi
  have:=H i
  simpa [Hd.b,hi] using this
theorem Hd.b_and (x y:Hd)(i:Nat):(x.and y).b i=(x.b i && y.b i):=by
 simp only [Hd.b,Hd.and];split <;> simp
theorem Hd.b_or (x y:Hd)(i:Nat):(x.or y).b i=(x.b i || y.b i):=by
 simp only [Hd.b,Hd.or];split <;> simp
theorem Hd.b_xor (x y:Hd)(i:Nat):(x.xor y).b i=(x.b i ^^ y.b i):=by
 simp only [Hd.b,Hd.xor];split <;> simp
theorem AS (x y:BitVec 64)(i:Nat):(x &&& ~~~y).getLsbD i=(x.getLsbD i && !y.getLsbD i):=by
 rw [BitVec.getLsbD_and,BitVec.getLsbD_not]
 by_cases h:i<64
 ·simp [h]
 ·rw [BitVec.getLsbD_of_ge x i (by omega)];simp
theorem Hd.b_less (x y:Hd)(i:Nat):(x.less y).b i=(x.b i && !y.b i):=by
 simp only [Hd.b,Hd.less]
 split
 ·rw [<- AS];rfl
 ·rw [<- AS];rfl
theorem Hd.b_zero (i:Nat):Hd.zero.b i=false:=by
 simp only [Hd.b,Hd.zero];split <;> simp
theorem Hd.none_iff (h:Hd):h.none=true↔∀i,h.b i=false:=by
 rw [Hd.none,vM]
 exact⟨fun e i=>by rw [e,Hd.b_zero],fun H=>Hd.ext_b fun i=>by rw [H,Hd.b_zero]⟩
theorem Cb.sound_iff (c:Cb):c.sound=true↔∀i,(c.value.b i && !c.care.b i)=false:=by
 rw [Cb.sound,Hd.none_iff];simp only [Hd.b_less]
theorem Cb.has_iff (c:Cb)(h:Hd):c.has h=true↔∀i,(h.b i && c.care.b i)=c.value.b i:=by
 rw [Cb.has,qQ,Cb.sound_iff,vM]
 constructor
 ·intro ⟨_,e⟩ i
  rw [<- e,Hd.b_and]
 ·intro H
  refine⟨fun i=>?_,Hd.ext_b fun i=>by rw [Hd.b_and,H]⟩
  have:=H i
  revert this
  cases h.b i <;> cases c.care.b i <;> cases c.value.b i <;> decide
theorem Cb.has_sound {c:Cb}{h:Hd}(H:c.has h=true):c.sound=true:=by
 rw [Cb.has,qQ] at H;exact H.1
theorem Cb.has_zero (h:Hd):Cb.zero.has h=true:=by
 rw [Cb.has_iff];intro i;simp [Cb.zero,Hd.b_zero]
theorem Cb.has_value {c:Cb}(H:c.sound=true):c.has c.value=true:=by
 rw [Cb.sound_iff] at H
 rw [Cb.has_iff]
 intro i
 have:=H i
 revert this
 cases c.care.b i <;> cases c.value.b i <;> decide
theorem Cb.apart_b (a c:Cb)(i:Nat):(a.apart c).b i=((a.value.b i ^^ c.value.b i) && (a.care.b i && c.care.b i)):=by
 simp only [Cb.apart,Hd.b_and,Hd.b_xor]
theorem Cb.meets_iff (a c:Cb):a.meets c=true↔a.sound=true/\c.sound=true/\∀i,((a.value.b i ^^ c.value.b i) && (a.care.b i && c.care.b i))=false:=by
 rw [Cb.meets,qQ,qQ,Hd.none_iff,and_assoc];simp only [Cb.apart_b]
theorem Cb.meets_of {a c:Cb}{h:Hd}(h1:a.has h=true)(h2:c.has h=true):a.meets c=true:=by
 rw [Cb.meets_iff]
 refine⟨Cb.has_sound h1,Cb.has_sound h2,fun i=>?_⟩
 have e1:=(Cb.has_iff _ _).1 h1 i
 have e2:=(Cb.has_iff _ _).1 h2 i
 rw [<- e1,<- e2]
 cases h.b i <;> cases a.care.b i <;> cases c.care.b i <;> rfl
theorem Cb.met_has {a c:Cb}{h:Hd}(hm:a.meets c=true):(a.met c).has h=(a.has h && c.has h):=by
 rw [Bool.eq_iff_iff,qQ,Cb.has_iff,Cb.has_iff,Cb.has_iff]
 obtain⟨s1,s2,m⟩:=(Cb.meets_iff _ _).1 hm
 rw [Cb.sound_iff] at s1 s2
 have key:∀i,((h.b i && (a.met c).care.b i)=(a.met c).value.b i)↔((h.b i && a.care.b i)=a.value.b i/\(h.b i && c.care.b i)=c.value.b i):=by
  intro i
  have e1:=s1 i
  have e2:=s2 i
  have e3:=m i
  simp only [Cb.met,Hd.b_or]
  revert e1 e2 e3
  cases h.b i <;> cases a.care.b i <;> cases a.value.b i <;> cases c.care.b i <;> cases c.value.b i <;> decide
 exact⟨fun H=>⟨fun i=>((key i).1 (H i)).1,fun i=>((key i).1 (H i)).2⟩,fun H i=>(key i).2 ⟨H.1 i,H.2 i⟩⟩
theorem Cb.has_set (c set:Cb)(h:Hd):c.has (h.set set)=(c.hits set && (c.before set).has h):=by
 rw [Bool.eq_iff_iff,qQ,Cb.has_iff,Cb.has_iff,Cb.hits,qQ,Cb.sound_iff,Hd.none_iff]
 have key:∀i,(((h.set set).b i && c.care.b i)=c.value.b i)↔((c.value.b i && !c.care.b i)=false/\(c.apart (Cb.make set.value set.care)).b i=false)/\(h.b i && (c.before set).care.b i)=(c.before set).value.b i:=by
  intro i
  simp only [Cb.apart_b,Cb.before,Cb.make,Hd.set,Hd.b_and,Hd.b_or,Hd.b_less]
  cases h.b i <;> cases c.care.b i <;> cases c.value.b i <;> cases set.care.b i <;> cases set.value.b i <;> decide
 exact⟨fun H=>⟨⟨fun i=>((key i).1 (H i)).1.1,fun i=>((key i).1 (H i)).1.2⟩,fun i=>((key i).1 (H i)).2⟩,fun H i=>(key i).2 ⟨⟨H.1.1 i,H.1.2 i⟩,H.2 i⟩⟩
theorem Cb.make_sound (v c:Hd):(Cb.make v c).sound=true:=by
 rw [Cb.sound_iff];intro i
 simp only [Cb.make,Hd.b_and]
 cases v.b i <;> cases c.b i <;> rfl
theorem Hd.set_zero (h:Hd):h.set Cb.zero=h:=by
 refine Hd.ext_b fun i=>?_
 simp [Hd.set,Cb.zero,Hd.b_or,Hd.b_less,Hd.b_and,Hd.b_zero]
theorem Cb.within_has {a c:Cb}(hw:a.within c=true){h:Hd}(hh:a.has h=true):c.has h=true:=by
 rw [Cb.within] at hw
 simp only [qQ,Hd.none_iff,Cb.apart_b,Hd.b_less] at hw
 obtain⟨⟨⟨s1,s2⟩,h1⟩,h2⟩:=hw
 rw [Cb.sound_iff] at s1 s2
 rw [Cb.has_iff] at hh ⊢
 intro i
 have e1:=s1 i
 have e2:=s2 i
 have e3:=h1 i
 have e4:=h2 i
 have e5:=hh i
 revert e1 e2 e3 e4 e5
 cases h.b i <;> cases a.care.b i <;> cases a.value.b i <;> cases c.care.b i <;> cases c.value.b i <;> decide
def Cb.cares (c:Cb):Nat:=((List.range 128).filter fun i=>c.care.b i).length
theorem kX {α:Type}{p q:α->Bool}:∀(l:List α),(∀x∈l,p x=true->q x=true)->(l.filter p).length<=(l.filter q).length
 |[],_=>qJ _
 |x::l,h=>by
  have ih:=kX l fun y hy=>h y (qZ _ hy)
  have hx:=h x vD
  cases hp:p x
  ·rw [List.filter_cons_of_neg (by simp [hp])]
   cases hq:q x
   ·rw [List.filter_cons_of_neg (by simp [hq])];exact ih
   ·rw [List.filter_cons_of_pos hq];exact Nat.le_succ_of_le ih
  ·rw [List.filter_cons_of_pos hp,List.filter_cons_of_pos (hx hp)]
   exact Nat.succ_le_succ ih
theorem oO {α:Type}{p q:α->Bool}:∀(l:List α),(∀x∈l,p x=true->q x=true)->(∃x∈l,p x=false/\q x=true)->(l.filter p).length<(l.filter q).length
 |[],_,⟨_,h,_⟩=>by cases h
 |x::l,h,⟨y,hy,h1,h2⟩=>by
  have hx:=h x vD
  have hl:=fun y hy=>h y (qZ _ hy)
  rcases vA.1 hy with rfl|hy
  ·rw [List.filter_cons_of_neg (by simp [h1]),List.filter_cons_of_pos h2]
   exact Nat.lt_succ_of_le (kX l hl)
  ·have ih:=oO l hl ⟨y,hy,h1,h2⟩
   cases hp:p x
   ·rw [List.filter_cons_of_neg (by simp [hp])]
    cases hq:q x
    ·rw [List.filter_cons_of_neg (by simp [hq])];exact ih
    ·rw [List.filter_cons_of_pos hq];exact Nat.lt_succ_of_lt ih
   ·rw [List.filter_cons_of_pos hp,List.filter_cons_of_pos (hx hp)]
    exact Nat.succ_lt_succ ih
theorem Cb.within_cares {a c:Cb}(hw:a.within c=true):c.cares<=a.cares/\(a≠c->c.cares<a.cares):=by
 rw [Cb.within] at hw
 simp only [qQ,Hd.none_iff,Cb.apart_b,Hd.b_less] at hw
 obtain⟨⟨⟨s1,s2⟩,h1⟩,h2⟩:=hw
 rw [Cb.sound_iff] at s1 s2
 have hle:∀i,c.care.b i=true->a.care.b i=true:=by
  intro i h
  have:=h1 i
  rw [h] at this
  simpa using this
 refine⟨kX _ fun i _ h=>hle i h,fun hne=>?_⟩
 refine oO _ (fun i _ h=>hle i h) ?_
 refine Classical.byContradiction fun hn=>hne ?_
 have hc:a.care=c.care:=Hd.ext_b fun i=>by
  by_cases hi:i<128
  ·cases h:c.care.b i
   ·cases h':a.care.b i
    ·rfl
    ·exact (hn ⟨i,uV.2 hi,h,h'⟩).elim
   ·exact hle i h
  ·rw [Hd.b_hi _ _ (by omega),Hd.b_hi _ _ (by omega)]
 have hv:a.value=c.value:=Hd.ext_b fun i=>by
  have e1:=s1 i
  have e2:=s2 i
  have e4:=h2 i
  rw [hc] at e1 e4
  revert e1 e2 e4
  cases a.value.b i <;> cases c.care.b i <;> cases c.value.b i <;> decide
 exact (Cb.eq_iff _ _).2 ⟨hv,hc⟩
theorem E3 (k i:Nat)(hk:k<64):(ct 1 k).toBitVec.getLsbD i=decide (i=k):=by
 have h:(ct 1 k).toBitVec.toNat=2 ^ k:=by
  show (ct 1 k).toNat=_
  rw [ct,UInt64.toNat_ofNat',kB3 (by omega),show (1:UInt64).toNat=1 from rfl,Nat.one_mul]
  exact Nat.mod_eq_of_lt (Nat.pow_lt_pow_right (by omega) hk)
 rw [BitVec.getLsbD,h,Nat.testBit_two_pow]
 exact decide_eq_decide.2 eq_comm
theorem D4:∀k,k<128->bO k 1=if k<64 then ⟨0,ct 1 k⟩ else ⟨ct 1 (k-64),0⟩:=by decide
theorem pQ (k i:Nat)(hk:k<128):(bO k 1).b i=decide (i=k):=by
 rw [D4 k hk]
 by_cases h:k<64
 ·rw [if_pos h]
  by_cases hi:i<64
  ·rw [Hd.b,if_pos hi];exact E3 k i h
  ·rw [Hd.b,if_neg hi]
   rw [qC (by omega)]
   exact BitVec.getLsbD_zero
 ·rw [if_neg h]
  by_cases hi:i<64
  ·rw [Hd.b,if_pos hi,qC (by omega)]
   exact BitVec.getLsbD_zero
  ·rw [Hd.b,if_neg hi]
   refine (E3 (k-64) (i-64) (by omega)).trans (decide_eq_decide.2 (by omega))
theorem AQ (a:UInt64)(k:Nat)(hk:k<64):decide (cj a k &&& 1=1)=a.toBitVec.getLsbD k:=by
 have h:(cj a k &&& 1).toNat=a.toNat / 2 ^ k % 2:=by
  rw [UInt64.toNat_and,cj,UInt64.toNat_ofNat_of_lt' (Nat.lt_of_le_of_lt (Nat.div_le_self _ _) (UInt64.toNat_lt a)),kB3 (by omega)]
  exact Nat.and_one_is_mod _
 rw [BitVec.getLsbD,Nat.testBit_eq_decide_div_mod_eq]
 refine decide_eq_decide.2 ?_
 rw [<- UInt64.toNat_inj,h]
 rfl
theorem Hd.bit_b (a:Hd)(k:Nat)(hk:k<128):a.bit k=a.b k:=by
 rw [Hd.bit,Hd.right,Hd.b]
 by_cases h:64<=k
 ·rw [if_pos h,if_neg (by omega)]
  exact AQ a.hi (k-64) (by omega)
 ·rw [if_neg h,if_pos (by omega)]
  rw [<- AQ a.lo k (by omega)]
  refine decide_eq_decide.2 ?_
  rw [<- UInt64.toNat_inj,<- UInt64.toNat_inj,UInt64.toNat_and,UInt64.toNat_and,UInt64.toNat_or,show (1:UInt64).toNat=1 from rfl,Nat.and_one_is_mod,Nat.and_one_is_mod,Nat.or_mod_two_eq_one]
  have h2:(ct a.hi (64-k)).toNat % 2=0:=by
   rw [ct,UInt64.toNat_ofNat',kB3 (by omega),show 64-k=(63-k)+1 by omega,Nat.pow_succ,<- Nat.mul_assoc]
   generalize a.hi.toNat*2 ^ (63-k)=q
   omega
  omega
theorem lB (c:Cb)(hc:c.sound = true)(more:Hd)(h:Hd):∀ (n:Nat) (rest:Cb) (out:List Cb),n <= 128 -> rest.sound = true -> (∀ i < n,more.b i = true -> rest.care.b i = false /\ c.care.b i = true) ->
  ((∃x∈ii c more n rest out,x.has h=true)↔(∃x∈out,x.has h=true)\/(rest.has h=true/\∃i<n,more.b i=true/\h.b i≠c.value.b i))
 |0,rest,out,hn,hr,hm=>by
  rw [ii]
  exact⟨Or.inl,fun H=>H.elim id fun ⟨_,i,hi,_⟩=>absurd hi (uO i)⟩
 |n+1,rest,out,hn,hr,hm=>by
  rw [ii,Hd.bit_b more n (by omega)]
  cases hb:more.b n
  ·rw [cond_false,lB c hc more h n rest out (by omega) hr fun i hi=>hm i (by omega)]
   refine or_congr Iff.rfl (and_congr Iff.rfl ⟨fun ⟨i,hi,H⟩=>⟨i,by omega,H⟩,fun ⟨i,hi,H⟩=>⟨i,?_,H⟩⟩)
   have:i≠n:=fun e=>by rw [e,hb] at H;exact Bool.false_ne_true H.1
   omega
  ·have hcare:=(hm n (by omega) hb).1
   have hcc:=(hm n (by omega) hb).2
   rw [Cb.sound_iff] at hr
   have hval:rest.value.b n=false:=by
    have:=hr n
    rw [hcare] at this
    simpa using this
   have s1:(Cb.mk (rest.value.or (c.value.and (bO n 1))) (rest.care.or (bO n 1))).sound=true:=by
    rw [Cb.sound_iff]
    intro i
    have:=hr i
    simp only [Hd.b_or,Hd.b_and,pQ n i (by omega)]
    revert this
    by_cases e:i=n
    ·simp [e]
    ·simp [e]
   have h1:(Cb.mk (rest.value.or (c.value.and (bO n 1))) (rest.care.or (bO n 1))).has h=true↔rest.has h=true/\h.b n=c.value.b n:=by
    rw [Cb.has_iff,Cb.has_iff]
    simp only [Hd.b_or,Hd.b_and,pQ n _ (show n<128 by omega)]
    constructor
    ·intro H
     constructor
     ·intro i
      have:=H i
      by_cases e:i=n
      ·rw [e,hcare,hval];simp
      ·simpa [e] using this
     ·have:=H n
      simpa [hval,hcare] using this
    ·intro ⟨H,e0⟩ i
     have:=H i
     by_cases e:i=n
     ·rw [e,hval,hcare,e0];simp
     ·simpa [e] using this
   have h2:(Cb.mk ((rest.value.or (c.value.and (bO n 1))).xor (bO n 1)) (rest.care.or (bO n 1))).has h=true↔rest.has h=true/\h.b n≠c.value.b n:=by
    rw [Cb.has_iff,Cb.has_iff]
    simp only [Hd.b_or,Hd.b_and,Hd.b_xor,pQ n _ (show n<128 by omega)]
    constructor
    ·intro H
     constructor
     ·intro i
      have:=H i
      by_cases e:i=n
      ·rw [e,hcare,hval];simp
      ·simpa [e] using this
     ·have:=H n
      rw [hval,hcare,qE (rfl:n=n)] at this
      revert this
      cases h.b n <;> cases c.value.b n <;> decide
    ·intro ⟨H,e0⟩ i
     have:=H i
     by_cases e:i=n
     ·rw [e,hval,hcare,qE (rfl:n=n)]
      revert e0
      cases h.b n <;> cases c.value.b n <;> decide
     ·simpa [e] using this
   rw [cond_true,lB c hc more h n _ _ (by omega) s1 fun i hi hmi=>⟨by
    have:=(hm i (by omega) hmi).1
    simp [Hd.b_or,pQ n i (by omega),this,show ¬i=n by omega],(hm i (by omega) hmi).2⟩]
   rw [h1]
   constructor
   ·rintro (⟨x,hx,hh⟩|⟨⟨g1,g2⟩,i,hi,H⟩)
    ·rcases vB.1 hx with hx|hx
     ·exact Or.inl ⟨x,hx,hh⟩
     ·rw [qP.1 hx] at hh
      exact Or.inr ⟨(h2.1 hh).1,n,by omega,hb,(h2.1 hh).2⟩
    ·exact Or.inr ⟨g1,i,by omega,H⟩
   ·rintro (⟨x,hx,hh⟩|⟨g1,i,hi,H⟩)
    ·exact Or.inl ⟨x,vS _ hx,hh⟩
    ·by_cases e:h.b n=c.value.b n
     ·have:i≠n:=fun e'=>by rw [e'] at H;exact H.2 e
      exact Or.inr ⟨⟨g1,e⟩,i,by omega,H⟩
     ·exact Or.inl ⟨_,List.mem_append_right _ (qP.2 rfl),h2.2 ⟨g1,e⟩⟩
theorem Cb.less_has (a c:Cb)(h:Hd)(ha:a.sound=true)(hc:c.sound=true):(∃x∈a.less c,x.has h=true)↔a.has h=true/\c.has h=false:=by
 rw [Cb.less,ha,hc,uZ,cond_true]
 cases hm:a.meets c
 ·rw [cond_false]
  constructor
  ·rintro⟨x,hx,hh⟩
   rw [qP.1 hx] at hh
   refine⟨hh,?_⟩
   cases hq:c.has h
   ·rfl
   ·rw [Cb.meets_of hh hq] at hm;cases hm
  ·exact fun H=>⟨a,qP.2 rfl,H.1⟩
 ·rw [cond_true,lB c hc _ h 128 a [] (qJ _) ha fun i _ H=>by
   rw [Hd.b_less] at H
   revert H
   cases c.care.b i <;> cases a.care.b i <;> decide]
  obtain⟨_,_,m⟩:=(Cb.meets_iff _ _).1 hm
  constructor
  ·rintro (⟨x,hx,_⟩|⟨g1,i,hi,g2,g3⟩)
   ·cases hx
   ·refine⟨g1,?_⟩
    cases hq:c.has h
    ·rfl
    ·have e:=(Cb.has_iff _ _).1 hq i
     rw [Hd.b_less] at g2
     revert g2 g3 e
     cases c.care.b i <;> cases a.care.b i <;> cases h.b i <;> cases c.value.b i <;> decide
  ·rintro⟨g1,g2⟩
   refine Or.inr ⟨g1,Classical.byContradiction fun hn=>?_⟩
   have:c.has h=true:=by
    rw [Cb.has_iff]
    intro i
    have e1:=(Cb.has_iff _ _).1 g1 i
    have e2:=m i
    have e3:=(Cb.sound_iff _).1 hc i
    by_cases hi:i<128
    ·by_cases hmo:(c.care.less a.care).b i=true
     ·have e4:h.b i=c.value.b i:=Classical.byContradiction fun hne=>hn ⟨i,hi,hmo,hne⟩
      rw [Hd.b_less] at hmo
      revert e1 e2 e3 e4 hmo
      cases c.care.b i <;> cases a.care.b i <;> cases h.b i <;> cases c.value.b i <;> cases a.value.b i <;> decide
     ·rw [Hd.b_less] at hmo
      revert e1 e2 e3 hmo
      cases c.care.b i <;> cases a.care.b i <;> cases h.b i <;> cases c.value.b i <;> cases a.value.b i <;> decide
    ·rw [Hd.b_hi _ _ (by omega),Hd.b_hi _ _ (by omega),Hd.b_hi _ _ (by omega)];rfl
   rw [this] at g2
   cases g2
def brn (c:Cb)(n:Nat):Nat:=if c.care.b n=true then (if c.value.b n=true then 1 else 0) else 2
theorem ra (c:Cb)(n:Nat):brn c n=0\/brn c n=1\/brn c n=2:=by
 unfold brn
 split
 ·split
  ·exact .inr (.inl rfl)
  ·exact .inl rfl
 ·exact .inr (.inr rfl)
def jz (c:Cb):Nat->Nat->Nat
 |0,n=>n
 |f+1,n=>if c.care.b n=true then n else jz c f (n+1)
def be (c:Cb):Nat:=jz c 128 0
theorem sO (c:Cb):∀f n,n<=jz c f n/\jz c f n<=n+f
 |0,n=>⟨qJ _,qJ _⟩
 |f+1,n=>by
  unfold jz
  split
  ·omega
  ·have:=sO c f (n+1)
   omega
theorem te (c:Cb):∀f n j,n<=j->j<jz c f n->c.care.b j=false
 |0,n,j,h1,h2=>by unfold jz at h2;omega
 |f+1,n,j,h1,h2=>by
  unfold jz at h2
  split at h2
  ·omega
  ·rename_i hc
   rcases Nat.eq_or_lt_of_le h1 with rfl|h3
   ·simpa using hc
   ·exact te c f (n+1) j h3 h2
theorem zL (c:Cb)(j:Nat)(h:j<be c):c.care.b j=false:=te c 128 0 j (qR _) h
theorem iq (c:Cb):be c<=128:=by have:=sO c 128 0;unfold be;omega
inductive Tr where
 |nil
 |node (a b c:Tr) (ids:List Nat)
def fG (n k:Nat)(e:Nat × Cb):Bool:=decide (be e.2<=n) && decide (brn e.2 n=k)
def trL:Nat->List (Nat × Cb)->Tr
 |0,l=>if l=[] then .nil else .node .nil .nil .nil (l.map (·.1))
 |n+1,l=>if l=[] then .nil else .node (trL n (l.filter (fG n 0))) (trL n (l.filter (fG n 1))) (trL n (l.filter (fG n 2))) ((l.filter fun e=>decide (n<be e.2)).map (·.1))
def gg (x:Cb)(n:Nat):List Nat:=if brn x n=2 then [0,1,2] else [brn x n,2]
def ec (x:Cb):Tr->Nat->List Nat
 | .nil,_=>[]
 | .node a b c ids,0=>ids
 | .node a b c ids,n+1=>ids++(gg x n).flatMap fun k=>if k=0 then ec x a n else if k=1 then ec x b n else ec x c n
def oW (c x:Cb)(j:Nat):Bool:=!((c.value.b j ^^ x.value.b j) && (c.care.b j && x.care.b j))
def gQ (x:Cb)(n:Nat)(c:Cb):Bool:=(List.range n).all fun j=>decide (j<be c) || oW c x j
theorem pF (x:Cb)(n:Nat)(c:Cb):gQ x (n+1) c=(gQ x n c && (decide (n<be c) || oW c x n)):=by
 simp [gQ,List.range_succ]
theorem s7 (x:Cb)(n:Nat)(c:Cb)(h:n<=be c):gQ x n c=true:=by
 simp only [gQ,qV,uV]
 intro j hj
 rw [qE (by omega:j<be c)]
 rfl
theorem EC (c x:Cb)(n:Nat):(gg x n).contains (brn c n)=oW c x n:=by
 unfold gg brn oW
 cases c.care.b n <;> cases c.value.b n <;> cases x.care.b n <;> cases x.value.b n <;> rfl
theorem gn {α:Type}(l:List α)(p q r:α->Bool)(h:∀e∈l,(if r e then 1 else 0)=(if p e then 1 else 0)+(if q e then 1 else 0)):l.countP r=l.countP p+l.countP q:=by
 induction l with
 |nil=>rfl
 |cons a l ih=>
  have h1:=h a (by simp)
  have h2:=ih fun e he=>h e (by simp [he])
  simp only [List.countP_cons]
  omega
theorem pj (x:Cb)(a:Nat):∀(n:Nat) (l:List (Nat × Cb)),(ec x (trL n l) n).count a=l.countP fun e=>decide (e.1=a) && gQ x n e.2
 |0,l=>by
  unfold trL
  split
  ·rename_i h
   subst h
   rfl
  ·simp only [ec,List.count,List.countP_map]
   refine List.countP_congr fun e he=>?_
   simp [gQ,beq_iff_eq]
 |n+1,l=>by
  unfold trL
  split
  ·rename_i h
   subst h
   rfl
  ·rename_i hne
   have ih:=pj x a n
   have key:∀k,(ec x (trL n (l.filter (fG n k))) n).count a=l.countP fun e=>(decide (e.1=a) && gQ x n e.2) && fG n k e:=fun k=>by
    rw [ih,List.countP_filter]
   have hids:((l.filter fun e=>decide (n<be e.2)).map (·.1)).count a=l.countP fun e=>decide (e.1=a) && decide (n<be e.2):=by
    rw [List.count,List.countP_map,List.countP_filter]
    refine List.countP_congr fun e he=>?_
    simp
   have hw:∀e:Nat × Cb,(gg x n).contains (brn e.2 n)=oW e.2 x n:=fun e=>EC e.2 x n
   simp only [ec,List.count_append,hids]
   unfold gg at hw ⊢
   by_cases hb:brn x n=2
   ·rw [if_pos hb] at hw ⊢
    simp only [List.flatMap_cons,List.flatMap_nil,uA,List.count_append,if_true,show (1:Nat)≠0 by decide,if_false,show (2:Nat)≠0 by decide,show (2:Nat)≠1 by decide,key]
    rw [<- gn l _ _ (fun e=>(decide (e.1=a) && gQ x n e.2) && (fG n 1 e || fG n 2 e)) (fun e he=>?_),<- gn l _ _ (fun e=>(decide (e.1=a) && gQ x n e.2) && (fG n 0 e || (fG n 1 e || fG n 2 e))) (fun e he=>?_),
     <- gn l _ _ (fun e=>decide (e.1=a) && gQ x (n+1) e.2) (fun e he=>?_)]
    ·have:=hw e
     rw [pF]
     unfold fG
     by_cases hl:n<be e.2
     ·rw [s7 x n e.2 (by omega),qE hl,qC (by omega:¬be e.2<=n)]
      simp
     ·rw [qC hl,qE (by omega:be e.2<=n),<- this]
      rcases ra e.2 n with h|h|h <;> rw [h] <;> simp
    ·unfold fG
     by_cases h1:brn e.2 n=0 <;> by_cases h2:brn e.2 n=1 <;> by_cases h3:brn e.2 n=2 <;> simp_all
    ·unfold fG
     by_cases h2:brn e.2 n=1 <;> by_cases h3:brn e.2 n=2 <;> simp_all
   ·rw [if_neg hb] at hw ⊢
    have hk:(fun k=>if k=0 then ec x (trL n (l.filter (fG n 0))) n else if k=1 then ec x (trL n (l.filter (fG n 1))) n else ec x (trL n (l.filter (fG n 2))) n) (brn x n)=ec x (trL n (l.filter (fG n (brn x n)))) n:=by
     rcases ra x n with h|h|h
     ·simp only [h,if_true]
     ·simp only [h,if_true,show (1:Nat)≠0 by decide,if_false]
     ·exact absurd h hb
    simp only [List.flatMap_cons,List.flatMap_nil,uA,List.count_append] at hk ⊢
    rw [hk]
    simp only [show (2:Nat)≠0 by decide,show (2:Nat)≠1 by decide,if_false,key]
    rw [<- gn l _ _ (fun e=>(decide (e.1=a) && gQ x n e.2) && (fG n (brn x n) e || fG n 2 e)) (fun e he=>?_),
     <- gn l _ _ (fun e=>decide (e.1=a) && gQ x (n+1) e.2) (fun e he=>?_)]
    ·have:=hw e
     rw [pF]
     unfold fG
     by_cases hl:n<be e.2
     ·rw [s7 x n e.2 (by omega),qE hl,qC (by omega:¬be e.2<=n)]
      simp
     ·rw [qC hl,qE (by omega:be e.2<=n),<- this]
      by_cases h1:brn e.2 n=brn x n <;> by_cases h2:brn e.2 n=2 <;> simp_all
    ·unfold fG
     by_cases h1:brn e.2 n=brn x n <;> by_cases h2:brn e.2 n=2 <;> simp_all
theorem Av (x:Cb)(n:Nat)(l:List (Nat × Cb)):(ec x (trL n l) n).Perm ((l.filter fun e=>gQ x n e.2).map (·.1)):=by
 rw [List.perm_iff_count]
 intro a
 rw [pj,List.count,List.countP_map,List.countP_filter]
 refine List.countP_congr fun e he=>?_
 simp
theorem uz (x c:Cb)(hx:x.sound=true)(hc:c.sound=true):gQ x 128 c=c.meets x:=by
 rw [Bool.eq_iff_iff,Cb.meets_iff]
 simp only [gQ,qV,uV,Bool.or_eq_true,vM,oW,Bool.not_eq_true']
 constructor
 ·intro h
  refine⟨hc,hx,fun i=>?_⟩
  by_cases hi:i<128
  ·rcases h i hi with h1|h1
   ·rw [zL c i h1]
    simp
   ·exact h1
  ·rw [Hd.b_hi c.care i (by omega)]
   simp
 ·rintro⟨_,_,h⟩ j _
  exact .inr (h j)
def cW (c:Cb)(m:Nat):List Nat:=(List.range' m (128-m)).map (brn c)
theorem jp (c:Cb)(m:Nat):(cW c m).length=128-m:=by simp [cW]
theorem oM (c:Cb):cW c 128=[]:=rfl
theorem m7 (c:Cb)(m:Nat)(h:m<128):cW c m=brn c m::cW c (m+1):=by
 unfold cW
 rw [show 128-m=(128-(m+1))+1 by omega,List.range'_succ,vE]
def atN (l:List (Nat × Cb))(n:Nat)(p:List Nat):List (Nat × Cb):=l.filter fun e=>decide (be e.2<=n) && decide (cW e.2 n=p)
def jr (l:List (Nat × Cb))(p:List Nat):List Nat:=(l.filter fun e=>decide (cW e.2 (be e.2)=p)).map (·.1)
theorem nO (l:List (Nat × Cb))(n k:Nat)(p:List Nat)(h:n<128):(atN l (n+1) p).filter (fG n k)=atN l n (k::p):=by
 unfold atN
 rw [List.filter_filter]
 refine List.filter_congr fun e _=>?_
 unfold fG
 rw [m7 e.2 n h]
 by_cases h1:be e.2<=n
 ·by_cases h2:brn e.2 n=k <;> by_cases h3:cW e.2 (n+1)=p <;> simp [h1,h2,h3,show be e.2<=n+1 by omega]
 ·simp [h1]
theorem AC (l:List (Nat × Cb))(n:Nat)(p:List Nat)(h:n<128)(hp:p.length=128-(n+1)):((atN l (n+1) p).filter fun e=>decide (n<be e.2)).map (·.1)=jr l p:=by
 unfold atN jr
 rw [List.filter_filter]
 refine congrArg _ (List.filter_congr fun e _=>?_)
 have h0:=iq e.2
 by_cases h1:be e.2=n+1
 ·rw [h1]
  simp
 ·have h2:cW e.2 (be e.2) ≠ p := fun he=>by
   have:=congrArg List.length he
   rw [jp,hp] at this
   omega
  rw [qC h2]
  by_cases h3:n<be e.2
  ·rw [qC (show ¬be e.2<=n+1 by omega)]
   simp
  ·rw [qC h3]
   simp
theorem Ch (l:List (Nat × Cb))(p:List Nat)(hp:p.length=128):(atN l 0 p).map (·.1)=jr l p:=by
 unfold atN jr
 refine congrArg _ (List.filter_congr fun e _=>?_)
 have h0:=iq e.2
 by_cases h1:be e.2=0
 ·rw [h1]
  simp
 ·have h2:cW e.2 (be e.2)≠p:=fun he=>by
   have:=congrArg List.length he
   rw [jp,hp] at this
   omega
  rw [qC h2,qC (show ¬be e.2<=0 by omega)]
  simp
theorem rG (l:List (Nat × Cb))(n:Nat)(p:List Nat)(h:n<128)(hp:p.length=128-(n+1))(hne:atN l (n+1) p≠[]) :
  trL (n+1) (atN l (n+1) p) = .node (trL n (atN l n (0::p))) (trL n (atN l n (1::p))) (trL n (atN l n (2::p))) (jr l p):=by
 rw [trL,if_neg hne,nO _ _ _ _ h,nO _ _ _ _ h,nO _ _ _ _ h,AC _ _ _ h hp]
theorem BZ (l:List (Nat × Cb))(p:List Nat)(hp:p.length=128)(hne:atN l 0 p≠[]):trL 0 (atN l 0 p) = .node .nil .nil .nil (jr l p):=by
 rw [trL,if_neg hne,Ch _ _ hp]
theorem wu (n:Nat):trL n [] = .nil:=by cases n <;> simp [trL]
theorem w6 (l:List (Nat × Cb)):atN l 128 []=l:=by
 unfold atN
 refine List.filter_eq_self.2 fun e _=>?_
 rw [oM]
 simp [iq]
def nJ (l:List (Nat × Cb))(p:List Nat):Prop:=p=[]\/∃e∈l,∃m,be e.2<=m/\m<=128/\cW e.2 m=p
theorem x9 {l:List (Nat × Cb)}{n:Nat}{p:List Nat}(hn:n<=128)(hp:p.length=128-n)(h0:p≠[]):nJ l p↔atN l n p≠[]:=by
 unfold nJ atN
 constructor
 ·rintro (h|⟨e,he,m,h1,h2,h3⟩)
  ·exact absurd h h0
  ·have hm:m=n:=by
    have:=congrArg List.length h3
    rw [jp,hp] at this
    omega
   subst hm
   intro hc
   have:e∈l.filter fun e=>decide (be e.2<=m) && decide (cW e.2 m=p):=List.mem_filter.2 ⟨he,by rw [qE h1,qE h3];rfl⟩
   rw [hc] at this
   cases this
 ·intro hne
  obtain⟨e,he⟩:=List.exists_mem_of_ne_nil _ hne
  obtain⟨h1,h2⟩:=List.mem_filter.1 he
  simp only [qQ,vM] at h2
  exact .inr ⟨e,h1,n,h2.1,hn,h2.2⟩
def gE:Option Nat->Value
 |none=>.pointer none
 |some b=>.pointer (some ⟨b,0,none⟩)
def idC (l:List Nat):List Value:=l.map fun i=>.int .i64 ((i:Nat):Int)
structure TS where
 nd:List Nat->Option Nat
 idv:List Nat->Value
 ids:List Nat->List Nat
def ndO (T:TS)(ex:Value)(p:List Nat):Array Value :=
 if p=[] then #[gE (T.nd [0]),gE (T.nd [1]),gE (T.nd [2]),T.idv [],ex] else #[gE (T.nd (0::p)),gE (T.nd (1::p)),gE (T.nd (2::p)),T.idv p]
def ndT (p:List Nat):TypeId:=if p=[] then 142 else 139
theorem Fd (p:List Nat):ndT p≠3:=by unfold ndT;split <;> decide
theorem EI (T:TS)(ex:Value)(p:List Nat)(k:Nat)(hk:k<3):(ndO T ex p)[k]?=some (gE (T.nd (k::p))):=by
 unfold ndO
 match k,hk with
 |0,_=>split <;> simp_all
 |1,_=>split <;> simp_all
 |2,_=>split <;> simp_all
theorem D7 (T:TS)(ex:Value)(p:List Nat):(ndO T ex p)[3]?=some (T.idv p):=by
 unfold ndO
 split <;> simp_all
structure TrW (w:World)(B:Nat)(T:TS)(ex:Value):Prop where
 node:∀p b,T.nd p=some b->B<=b/\w.heap[b]?=some (.cells (ndO T ex p) (ndT p) (0,0))
 own:∀p b,T.nd p=some b->w.ownsRow B 3 1 (T.idv p) (T.ids p).length (idC (T.ids p))
 inj:∀p q b,T.nd p=some b->T.nd q=some b->p=q
 rows:∀p q b c,T.nd p=some b->T.nd q=some c->p≠q->(T.idv p).ownBlock=none\/(T.idv p).ownBlock≠(T.idv q).ownBlock
 up:∀k p,(T.nd (k::p)).isSome=true->(T.nd p).isSome=true
section
variable {w w':World} {B:Nat} {T:TS} {ex:Value} {p:List Nat} {b:Nat}
theorem TrW.lt (h:TrW w B T ex)(hp:T.nd p=some b):b<w.heap.size:=(qI.1 (h.node p b hp).2).1
theorem af {g j:Nat}{cs:Array Value}{t:TypeId}{u:Value}(h:w.heap[g]?=some (.cells cs t (0,0)))(hj:cs[j]?=some u):w.cell? ⟨g,j,none⟩=some u:=by
 simp [World.cell?,h,hj]
theorem TrW.kid (h:TrW w B T ex)(hp:T.nd p=some b){k:Nat}(hk:k<3):w.cell? ⟨b,k,none⟩=some (gE (T.nd (k::p))):=af (h.node p b hp).2 (EI T ex p k hk)
theorem TrW.idc (h:TrW w B T ex)(hp:T.nd p=some b):w.cell? ⟨b,3,none⟩=some (T.idv p):=af (h.node p b hp).2 (D7 T ex p)
theorem TrW.frz (h:TrW w B T ex)(hp:T.nd p=some b)(k:Nat):w.frozen? ⟨b,k,none⟩=false:=frozen_of_row w b k _ _ (h.node p b hp).2
theorem TrW.apart (h:TrW w B T ex){q:List Nat}{c:Nat}(hp:T.nd p=some b)(hq:T.nd q=some c):(T.idv q).ownBlock≠some b:=fun he=>by
 rcases (h.own q c hq).2 with⟨hv,_⟩|⟨g,cap,cur,hv,_,hg,_⟩
 ·rw [hv] at he
  cases he
 ·rw [hv] at he
  obtain rfl:g=b:=qB he
  have e:=hg.symm.trans (h.node p g hp).2
  injection qB e with _ h2 _
  exact Fd p h2.symm
theorem gi {v:Value}{n:Nat}{xs:List Value}(h:w.ownsRow B 3 1 v n xs)(hk:∀g,v.ownBlock=some g->w'.heap[g]?=w.heap[g]?):w'.ownsRow B 3 1 v n xs:=by
 refine⟨h.1,?_⟩
 rcases h.2 with hn|⟨g,cap,cur,rfl,hb,hgg,rest⟩
 ·exact .inl hn
 ·exact .inr ⟨g,cap,cur,rfl,hb,(hk g rfl).trans hgg,rest⟩
theorem TrW.keep (h:TrW w B T ex)(hk:∀k,k<w.heap.size->w'.heap[k]?=w.heap[k]?):TrW w' B T ex where
 node p b hp:=⟨(h.node p b hp).1,(hk b (h.lt hp)).trans (h.node p b hp).2⟩
 own p b hp:=gi (h.own p b hp) fun g hg=>hk g ((h.own p b hp).lt g hg).2
 inj:=h.inj
 rows:=h.rows
 up:=h.up
def TS.more (T:TS)(q:List Nat)(n:Nat):TS:=⟨fun r=>if r=q then some n else T.nd r,fun r=>if r=q then .slice none 0 0 else T.idv r,fun r=>if r=q then [] else T.ids r⟩
theorem TrW.more (h:TrW w B T ex){k:Nat}(hk:k<3)(hp:T.nd p=some b)(hn:T.nd (k::p)=none)(hB:B<=w.heap.size) :
  TrW ((w.alloc (.cells #[.pointer none,.pointer none,.pointer none,.slice none 0 0] 139)).setCell ⟨b,k,none⟩ (.pointer (some ⟨w.heap.size,0,none⟩))) B (T.more (k::p) w.heap.size) ex:=by
 have hb:=h.lt hp
 have hne:∀j,T.nd (j::k::p)=none:=fun j=>by
  cases hc:T.nd (j::k::p) with
  |none=>rfl
  |some c=>
   have:=h.up j (k::p) (by rw [hc];rfl)
   rw [hn] at this
   cases this
 have hcons:∀j:Nat,¬j::k::p=k::p:=fun j e=>by
  have:=congrArg List.length e
  simp at this
 have hpk:∀{r:List Nat} {c:Nat},T.nd r=some c->r≠k::p:=fun {r c} hr e=>by
  rw [e,hn] at hr
  cases hr
 have hnd:∀r,(T.more (k::p) w.heap.size).nd r=if r=k::p then some w.heap.size else T.nd r:=fun r=>rfl
 have hidv:∀r,r≠k::p->(T.more (k::p) w.heap.size).idv r=T.idv r:=fun r hr=>if_neg hr
 have hids:∀r,r≠k::p->(T.more (k::p) w.heap.size).ids r=T.ids r:=fun r hr=>if_neg hr
 have hw:∀c,c<w.heap.size->c≠b->((w.alloc (.cells #[.pointer none,.pointer none,.pointer none,.slice none 0 0] 139)).setCell ⟨b,k,none⟩ (.pointer (some ⟨w.heap.size,0,none⟩))).heap[c]?=w.heap[c]?:=fun c hc hcb=>by
  rw [heap_setCell_other _ _ _ _ hcb,heap_alloc_old w _ hc]
 refine⟨fun q c hq=>?_,fun q c hq=>?_,fun q r c hq hr=>?_,fun q r c d hq hr hqr=>?_,fun j q hq=>?_⟩
 ·rw [hnd] at hq
  split at hq
  ·rename_i e
   subst e
   obtain rfl:=qB hq
   refine⟨hB,?_⟩
   rw [heap_setCell_other _ _ _ _ (by show w.heap.size≠b;omega),kA5]
   have e1:∀j,(T.more (k::p) w.heap.size).nd (j::k::p)=none:=fun j=>by rw [hnd,if_neg (hcons j),hne j]
   unfold ndO ndT
   rw [if_neg (List.cons_ne_nil _ _),if_neg (List.cons_ne_nil _ _),e1,e1,e1]
   have e2:(T.more (k::p) w.heap.size).idv (k::p) = .slice none 0 0:=if_pos rfl
   rw [e2]
   rfl
  ·rename_i e
   by_cases hqp:q=p
   ·subst hqp
    obtain rfl:b=c:=qB (hp.symm.trans hq)
    refine⟨(h.node q b hq).1,?_⟩
    rw [heap_setCell_same _ b k (ndO T ex q) (ndT q) _ (by rw [heap_alloc_old w _ hb];exact (h.node q b hq).2)]
    congr 2
    have e1:∀j,j≠k->(T.more (k::q) w.heap.size).nd (j::q)=T.nd (j::q):=fun j hj=>by
     rw [hnd,if_neg (by simpa using hj)]
    have e2:(T.more (k::q) w.heap.size).nd (k::q)=some w.heap.size:=if_pos rfl
    unfold ndO
    by_cases hq0:q=[]
    ·subst hq0
     rw [if_pos rfl,if_pos rfl,hidv [] e]
     match k,hk with
     |0,_=>rw [e2,e1 1 (by decide),e1 2 (by decide)];rfl
     |1,_=>rw [e2,e1 0 (by decide),e1 2 (by decide)];rfl
     |2,_=>rw [e2,e1 0 (by decide),e1 1 (by decide)];rfl
    ·rw [if_neg hq0,if_neg hq0,hidv q e]
     match k,hk with
     |0,_=>rw [e2,e1 1 (by decide),e1 2 (by decide)];rfl
     |1,_=>rw [e2,e1 0 (by decide),e1 2 (by decide)];rfl
     |2,_=>rw [e2,e1 0 (by decide),e1 1 (by decide)];rfl
   ·have hcb:c≠b:=fun hc=>hqp (h.inj q p b (hc ▸ hq) hp)
    refine⟨(h.node q c hq).1,?_⟩
    rw [hw c (h.lt hq) hcb,(h.node q c hq).2]
    have e1:∀j,(T.more (k::p) w.heap.size).nd (j::q)=T.nd (j::q):=fun j=>by
     rw [hnd,if_neg (fun he=>hqp (List.cons.inj he).2)]
    have e2:=hidv q e
    unfold ndO
    by_cases hq0:q=[]
    ·subst hq0
     rw [if_pos rfl,if_pos rfl,e1,e1,e1,e2]
    ·rw [if_neg hq0,if_neg hq0,e1,e1,e1,e2]
 ·rw [hnd] at hq
  split at hq
  ·rename_i e
   subst e
   have e2:(T.more (k::p) w.heap.size).idv (k::p) = .slice none 0 0:=if_pos rfl
   have e3:(T.more (k::p) w.heap.size).ids (k::p)=[]:=if_pos rfl
   rw [e2,e3]
   exact⟨rfl,.inl ⟨rfl,rfl⟩⟩
  ·rename_i e
   rw [hidv q e,hids q e]
   exact gi (h.own q c hq) fun g hg=>hw g ((h.own q c hq).lt g hg).2 fun hgb=>h.apart hp hq (hgb ▸ hg)
 ·rw [hnd] at hq hr
  split at hq <;> split at hr
  ·rename_i e1 e2
   exact e1.trans e2.symm
  ·rename_i e1 e2
   have:=h.lt hr
   obtain rfl:=qB hq
   omega
  ·rename_i e1 e2
   have:=h.lt hq
   obtain rfl:=qB hr
   omega
  ·exact h.inj q r c hq hr
 ·rw [hnd] at hq hr
  by_cases e1:q=k::p
  ·left
   have e2:(T.more (k::p) w.heap.size).idv (k::p) = .slice none 0 0:=if_pos rfl
   rw [e1,e2]
   rfl
  ·by_cases e2:r=k::p
   ·have e3:(T.more (k::p) w.heap.size).idv (k::p) = .slice none 0 0:=if_pos rfl
    rw [hidv q e1,e2,e3]
    by_cases h0:(T.idv q).ownBlock=none
    ·exact .inl h0
    ·exact .inr h0
   ·rw [if_neg e1] at hq
    rw [if_neg e2] at hr
    rw [hidv q e1,hidv r e2]
    exact h.rows q r c d hq hr hqr
 ·rw [hnd] at hq ⊢
  split at hq
  ·rename_i e
   obtain⟨rfl,rfl⟩:=List.cons.inj e
   rw [if_neg (fun he=>by have:=congrArg List.length he;simp at this),hp]
   rfl
  ·have:=h.up j q hq
   split
   ·rfl
   ·exact this
def TS.put (T:TS)(q:List Nat)(v:Value)(i:Nat):TS:=⟨T.nd,fun r=>if r=q then v else T.idv r,fun r=>if r=q then T.ids r++[i] else T.ids r⟩
theorem TrW.put (h:TrW w B T ex)(hp:T.nd p=some b){v:Value}{i:Nat}(hg:w.grownBy w' (T.idv p).ownBlock)(hv:w'.ownsRow B 3 1 v ((T.ids p).length+1) (idC (T.ids p++[i])))
  (hnew:v.ownBlock=(T.idv p).ownBlock\/∀g,v.ownBlock=some g->w.heap.size<=g) :
  TrW (w'.setCell ⟨b,3,none⟩ v) B (T.put p v i) ex:=by
 have hb:=h.lt hp
 have hvb:v.ownBlock≠some b:=fun he=>by
  rcases hnew with hn|hn
  ·exact h.apart hp hp (hn ▸ he)
  ·have:=hn b he
   omega
 have hidv:∀r,r≠p->(T.put p v i).idv r=T.idv r:=fun r hr=>if_neg hr
 have hidp:(T.put p v i).idv p=v:=if_pos rfl
 have hw:∀c,c<w.heap.size->some c≠(T.idv p).ownBlock->c≠b->(w'.setCell ⟨b,3,none⟩ v).heap[c]?=w.heap[c]?:=fun c hc h1 h2=>by
  rw [heap_setCell_other _ _ _ _ h2,hg.block c hc h1]
 have hbk:w'.heap[b]?=w.heap[b]?:=hg.block b hb (fun he=>h.apart hp hp he.symm)
 refine⟨fun q c hq=>?_,fun q c hq=>?_,h.inj,fun q r c d hq hr hqr=>?_,h.up⟩
 ·refine⟨(h.node q c hq).1,?_⟩
  by_cases hqp:q=p
  ·subst hqp
   obtain rfl:b=c:=qB (hp.symm.trans hq)
   rw [heap_setCell_same _ b 3 (ndO T ex q) (ndT q) _ (hbk.trans (h.node q b hq).2)]
   congr 2
   unfold ndO
   by_cases hq0:q=[]
   ·subst hq0
    rw [if_pos rfl,if_pos rfl,hidp]
    rfl
   ·rw [if_neg hq0,if_neg hq0,hidp]
    rfl
  ·have hcb:c≠b:=fun hc=>hqp (h.inj q p b (hc ▸ hq) hp)
   rw [hw c (h.lt hq) (fun he=>h.apart hq hp he.symm) hcb,(h.node q c hq).2]
   unfold ndO
   by_cases hq0:q=[]
   ·subst hq0
    rw [if_pos rfl,if_pos rfl,hidv [] hqp]
    rfl
   ·rw [if_neg hq0,if_neg hq0,hidv q hqp]
    rfl
 ·by_cases hqp:q=p
  ·subst hqp
   have e:(T.put q v i).ids q=T.ids q++[i]:=if_pos rfl
   rw [hidp,e,qK,vP]
   exact gi hv fun g hg'=>heap_setCell_other _ _ _ _ (fun he=>hvb (hg'.trans (congrArg some he)))
  ·have e:(T.put p v i).ids q=T.ids q:=if_neg hqp
   rw [hidv q hqp,e]
   have h1:=h.rows q p c b hq hp hqp
   exact gi (h.own q c hq) fun g hg'=>hw g ((h.own q c hq).lt g hg').2 (fun he=>by
    rcases h1 with h1|h1
    ·rw [h1] at hg';cases hg'
    ·exact h1 (hg'.trans he)) (fun he=>h.apart hp hq (he ▸ hg'))
 ·by_cases hqp:q=p
  ·subst hqp
   rw [hidp,hidv r (fun he=>hqr he.symm)]
   rcases hnew with hn|hn
   ·rw [hn]
    exact h.rows q r c d hq hr hqr
   ·cases ho:v.ownBlock with
    |none=>exact .inl rfl
    |some g=>
     refine .inr fun he=>?_
     have:=hn g ho
     have:=((h.own r d hr).lt g he.symm).2
     omega
  ·by_cases hrp:r=p
   ·subst hrp
    rw [hidp,hidv q hqp]
    by_cases h0:(T.idv q).ownBlock=none
    ·exact .inl h0
    ·rcases hnew with hn|hn
     ·rw [hn]
      exact h.rows q r c d hq hr hqr
     ·refine .inr fun he=>?_
      cases ho:(T.idv q).ownBlock with
      |none=>exact h0 ho
      |some g=>
       have:=hn g (he ▸ ho)
       have:=((h.own q c hq).lt g ho).2
       omega
   ·rw [hidv q hqp,hidv r hrp]
    exact h.rows q r c d hq hr hqr
end
theorem tj (c:Cb)(n:Nat)(hn:n<128):aa Tryz.prog 103 [.agg (cCb c),.i .i64 n] (.i .i64 (brn c n:Nat)):=by
 refine jb Tryz.func103 ?_
 have h1:=wg c.care n hn
 have h2:=wg c.value n hn
 rw [Hd.bit_b _ _ hn] at h1 h2
 unfold brn
 cases hc:c.care.b n with
 |false=>
  rw [hc] at h1
  refine jA ?_
  refine jc h1 ?_;refine jH ?_
  refine zT ?_
  exact zS
 |true=>
  rw [hc] at h1
  cases hv:c.value.b n with
  |false=>
   rw [hv] at h2
   refine jA ?_
   refine jc h1 ?_;refine jH ?_
   refine zF ?_
   refine jc h2 ?_;refine jH ?_
   refine zF ?_
   exact zS
  |true=>
   rw [hv] at h2
   refine jA ?_
   refine jc h1 ?_;refine jH ?_
   refine zF ?_
   refine jc h2 ?_;refine jH ?_
   refine zT ?_
   exact zS
theorem GS (c:Cb):aa Tryz.prog 137 [.agg (cCb c)] (.i .i64 (be c:Nat)):=by
 refine jb Tryz.func137 ?_
 refine jA ?_
 refine AW.loopL (ι:=Nat) (fun i=>[(1,.own 1 0 0),(4,.i .i64 (i:Nat))]) (fun i=>[(1,⟨0,some (.box 36 (cCb c))⟩)]) (fun i=>i<=128/\jz c (128-i) i=be c) (fun i=>128-i) 0 ⟨qR _,rfl⟩ jW jW fun k hk=>?_
 obtain⟨hk1,hk2⟩:=hk
 refine jA ?_
 refine AW.cond rfl (fun h=>?_) (fun h=>?_)
 ·have hlt:k<128:=by have:((k:Nat):Int)<128:=of_decide_eq_true h;omega
  have h1:=wg c.care k hlt
  rw [Hd.bit_b _ _ hlt] at h1
  rw [show 128-k=(128-(k+1))+1 by omega,jz] at hk2
  refine jA ?_
  refine jc h1 ?_;refine jH ?_
  cases hc:c.care.b k with
  |true=>
   rw [hc,if_pos rfl] at hk2
   refine zT ?_
   refine jR ?_
   exact congrArg (AV.i .i64) (congrArg Int.ofNat hk2)
  |false=>
   rw [hc,if_neg (by decide)] at hk2
   refine zF ?_
   exact⟨k+1,⟨⟨hlt,hk2⟩,by show 128-(k+1)<128-k;omega⟩,⟨rO rfl rfl rfl,rI (ay (show k<128 from hlt) (by omega)) rfl,trivial⟩,jW⟩
 ·have hge:k=128:=by have:¬((k:Nat):Int)<128:=of_decide_eq_false h;omega
  subst hge
  refine jB ?_
  refine jE ?_;refine jA ?_
  refine jR ?_
  exact congrArg (AV.i .i64) (congrArg Int.ofNat hk2)
def cI1 (n:Nat):List AV:=[.i .i64 n]
theorem GA (c:Cb)(n:Nat)(hn:n<128):aa Tryz.prog 61 [.agg (cCb c),.i .i64 n] (.sl ((gg c n).map cI1)):=by
 refine jb Tryz.func61 ?_
 have h1:=tj c n hn
 unfold gg
 refine jA ?_
 refine AW.cond rfl (fun h=>?_) (fun h=>?_)
 ·have:((n:Nat):Int)<0:=of_decide_eq_true h
  omega
 refine jA ?_
 refine jc h1 ?_;refine jH ?_
 by_cases hb:brn c n=2
 ·rw [if_pos hb]
  refine AW.cond rfl (fun h=>?_) (fun _=>?_)
  ·rw [hb] at h
   cases h
  refine zR ?_
  rfl
 ·rw [if_neg hb]
  refine AW.cond rfl (fun _=>?_) (fun h=>?_)
  ·refine jA ?_
   exact zS
  ·have:((brn c n:Nat):Int)=2:=by simpa using h
   omega
theorem En (c:Cb):aa Tryz.prog 61 [.agg (cCb c),.i .i64 (-1)] (.sl []):=by
 refine jb Tryz.func61 ?_
 refine jA ?_
 refine zT ?_
 exact zS
def cbV (c:Cb):Value:=.agg #[.int .u64 c.value.hi.toNat,.int .u64 c.value.lo.toNat,.int .u64 c.care.hi.toNat,.int .u64 c.care.lo.toNat]
theorem gN (W:World)(F:Nat->Prop)(c:Cb):au W F (.agg (cCb c)) (cbV c) :=
 .agg (cCb c) [.int .u64 c.value.hi.toNat,.int .u64 c.value.lo.toNat,.int .u64 c.care.hi.toNat,.int .u64 c.care.lo.toNat] rfl (C4 rfl) (aQ (.u _) (aQ (.u _) (aQ (.u _) (aQ (.u _) cP))))
def cbO (c:Cb):Obj:=.cells #[.int .u64 c.value.hi.toNat,.int .u64 c.value.lo.toNat,.int .u64 c.care.hi.toNat,.int .u64 c.care.lo.toNat] 36
theorem AJ (c:Cb)(w:World):Calls Tryz.prog 137 #[cbV c] w fun e w'=>e = .returned (.int .i64 (be c:Nat))/\Kp No w w':=by
 refine ((GS c).calls w (fun _=>False) [cbV c] rfl (aQ (gN _ _ _) cP) (fun _ h=>h.elim) (eT _ _)).mono ?_
 rintro e w' ⟨v,rfl,hk,hp⟩
 exact⟨congrArg Ending.returned (aD rfl hp),hk⟩
theorem zC (c:Cb)(n:Nat)(hn:n<128)(w:World):Calls Tryz.prog 103 #[cbV c,.int .i64 n] w fun e w'=>e = .returned (.int .i64 (brn c n:Nat))/\Kp No w w':=by
 refine ((tj c n hn).calls w (fun _=>False) [cbV c,.int .i64 n] rfl (aQ (gN _ _ _) (aQ (.i _ _) cP)) (fun _ h=>h.elim) (eT _ _)).mono ?_
 rintro e w' ⟨v,rfl,hk,hp⟩
 exact⟨congrArg Ending.returned (aD rfl hp),hk⟩
structure zV (B:Nat)(ex:Value)(T0:TS)(c:Cb)(m:Nat)(w w':World)(T:TS)(b:Nat):Prop where
 tr:TrW w' B T ex
 at_:T.nd (cW c m)=some b
 old:∀p b,T0.nd p=some b->T.nd p=some b
 more:∀p,(T.nd p).isSome=true↔(T0.nd p).isSome=true\/∃m',m<=m'/\m'<=128/\p=cW c m'
 ids:∀p,T.ids p=T0.ids p
 bel:Below B w w'
set_option maxHeartbeats 4000000 in
theorem AM (w:World)(B:Nat)(T0:TS)(ex:Value)(r:Nat)(c:Cb)(h:TrW w B T0 ex)(hr:T0.nd [] = some r)(h0:∀ p,T0.nd p = none -> T0.ids p = [])(hB:B <= w.heap.size) :
  Calls Tryz.prog 100 #[.pointer (some ⟨r,0,none⟩),cbV c] w fun e w'=>∃T b,e = .returned (.pointer (some ⟨b,0,none⟩))/\zV B ex T0 c (be c) w w' T b:=by
 have H:=kA4 h
 have Hr:=kA4 hr
 have H0:=kA4 h0
 have HB:=kA4 hB
 have hsz:=h.lt hr
 clear h hr h0 hB
 unfold cbV
 go_enter Tryz.func100,Tryz.ntmps100
 go_wp2
 go_loopw [5,6] (fun at_ i wr=>∃(m:Nat) (T:TS) (b:Nat),m<=128/\be c<=m/\at_ = .pointer (some ⟨b,0,none⟩)/\i = .int .i64 ((m:Int)-1)/\wr.heap[w.heap.size]?=some (cbO c)/\zV B ex T0 c m w wr T b) (fun at_ i _=>(intOf i+1).toNat)
 case atStart=>
  refine⟨128,T0,r,qJ _,iq c,rfl,rfl,kA5 w _,⟨H.out.keep fun k hk=>heap_alloc_old w _ hk,Hr.out,fun _ _ h=>h,fun p=>⟨.inl,?_⟩,fun _=>rfl,(Below.refl B w).alloc HB.out _⟩⟩
  rintro (h|⟨m',h1,h2,rfl⟩)
  ·exact h
  ·obtain rfl:m'=128:=by omega
   rw [oM,Hr.out]
   rfl
 case round=>
  obtain⟨m,T,b,hm,hml,rfl,rfl,hq,hP⟩:=hrel
  have cells:∀{W:World},W.heap[w.heap.size]?=some (cbO c)->W.cell? ⟨w.heap.size,0,none⟩=some (.int .u64 c.value.hi.toNat)/\W.cell? ⟨w.heap.size,1,none⟩=some (.int .u64 c.value.lo.toNat)/\W.cell? ⟨w.heap.size,2,none⟩=some (.int .u64 c.care.hi.toNat)/\W.cell? ⟨w.heap.size,3,none⟩=some (.int .u64 c.care.lo.toNat):=fun {W} h=>⟨af h rfl,af h rfl,af h rfl,af h rfl⟩
  have Cells:=kA4 (fun (W:World) h=>@cells W h)
  obtain⟨c0,c1,c2,c3⟩:=cells hq
  have Hq:=kA4 hq
  have HP:=kA4 hP
  clear cells hq hP
  by_cases hlt:be c<m
  ·obtain⟨n,rfl⟩:∃n,m=n+1:=⟨m-1,by omega⟩
   have e1:(((n+1:Nat):Int)-1)=(n:Int):=by omega
   rw [e1]
   have hn:n<128:=by omega
   have q1:((be c:Nat):Int)<=(n:Int):=by omega
   clear hlt
   go_wp2_with fail
   refine (AJ c _).mono ?_
   rintro e W1 ⟨rfl,hk1⟩
   obtain⟨c0,c1,c2,c3⟩:=Cells.out _ ((hk1.block _ (qI.1 Hq.out).1 id).trans Hq.out)
   have Hk1:=kA4 hk1
   clear hk1
   go_wp2_with fail
   refine (zC c n hn _).mono ?_
   rintro e W2 ⟨rfl,hk2⟩
   have Hk2:=kA4 (Hk1.out.trans hk2)
   have Hq2:=kA4 ((Hk2.out.block _ (qI.1 Hq.out).1 id).trans Hq.out)
   have HT2:=kA4 (HP.out.tr.keep fun k hk=>Hk2.out.block k hk id)
   clear hk2 c0 c1 c2 c3
   obtain⟨k,hk⟩:∃k,brn c n=k:=⟨_,rfl⟩
   have hk3:k<3:=by rcases ra c n with h|h|h <;> omega
   rw [hk]
   have Hpath:=kA4 (m7 c n hn)
   have ck:=HT2.out.kid HP.out.at_ hk3
   have ckf:=HT2.out.frz HP.out.at_ k
   have Hkp:=kA4 (show cW c n=k::cW c (n+1) by rw [Hpath.out,hk])
   clear hk Hpath
   have HB2:=kA4 (show Below B w W2 from HP.out.bel.trans (Hk2.out.below (vH HB.out HP.out.bel.size) fun _ _ h=>h))
   cases hnd:T.nd (k::cW c (n+1)) with
   |none=>
    rw [hnd] at ck
    have Hnd:=kA4 hnd
    have hbl:=HT2.out.lt HP.out.at_
    clear hnd
    unfold gE at ck
    go_wp2_with fail
    go_roundw
    case rel=>
     have htr:=HT2.out.more (b:=b) hk3 HP.out.at_ Hnd.out (vH HB.out HB2.out.size)
     rw [World.setCell_alloc_past _ _ _ _ hbl] at htr
     have hnd':∀p,(T.more (k::cW c (n+1)) W2.heap.size).nd p=if p=k::cW c (n+1) then some W2.heap.size else T.nd p:=fun p=>rfl
     have hold:∀p b,T0.nd p=some b->(T.more (k::cW c (n+1)) W2.heap.size).nd p=some b:=fun p b hp=>by
      have:=HP.out.old p b hp
      rw [hnd',if_neg (fun he=>by rw [he,Hnd.out] at this;cases this)]
      exact this
     refine⟨n,_,W2.heap.size,by omega,by omega,rfl,rfl,?_,⟨htr,by rw [Hkp.out,hnd',if_pos rfl],hold,fun p=>?_,fun p=>?_,?_⟩⟩
     ·have h1:=(qI.1 Hq2.out).1
      have hne:w.heap.size≠b:=fun he=>by
       have h2:=(HT2.out.node _ b HP.out.at_).2
       rw [<- he,Hq2.out] at h2
       injection qB h2 with _ h3 _
       revert h3
       unfold ndT
       split <;> decide
      rw [heap_alloc_old _ _ (by simpa using h1),heap_setCell_other _ _ _ _ hne]
      exact Hq2.out
     ·rw [hnd']
      constructor
      ·intro h
       split at h
       ·rename_i e
        exact .inr ⟨n,qJ _,by omega,e.trans Hkp.out.symm⟩
       ·rcases (HP.out.more p).1 h with h1|⟨m',h1,h2,h3⟩
        ·exact .inl h1
        ·exact .inr ⟨m',by omega,h2,h3⟩
      ·rintro (h|⟨m',h1,h2,rfl⟩)
       ·split
        ·rfl
        ·exact (HP.out.more p).2 (.inl h)
       ·by_cases hm':m'=n
        ·subst hm'
         rw [if_pos Hkp.out]
         rfl
        ·split
         ·rfl
         ·exact (HP.out.more _).2 (.inr ⟨m',by omega,h2,rfl⟩)
     ·show (if p=_ then [] else T.ids p)=_
      split
      ·rename_i e
       refine (H0.out p ?_).symm
       cases hc:T0.nd p with
       |none=>rfl
       |some b'=>
        have:=HP.out.old p b' hc
        rw [e,Hnd.out] at this
        cases this
      ·exact HP.out.ids p
     ·have hbB:=(HT2.out.node _ b HP.out.at_).1
      exact (HB2.out.setCell (p:=⟨b,k,none⟩) hbB _).alloc (by simpa using vH HB.out HB2.out.size) _
    case measure=>simp [intOf]
   |some b2=>
    rw [hnd] at ck
    have Hnd:=kA4 hnd
    clear hnd
    unfold gE at ck
    go_wp2_with fail
    go_roundw
    case rel=>
     refine⟨n,T,b2,by omega,by omega,rfl,rfl,Hq2.out,⟨HT2.out,by rw [Hkp.out,Hnd.out],HP.out.old,fun p=>?_,HP.out.ids,HB2.out⟩⟩
     constructor
     ·intro h
      rcases (HP.out.more p).1 h with h1|⟨m',h1,h2,h3⟩
      ·exact .inl h1
      ·exact .inr ⟨m',by omega,h2,h3⟩
     ·rintro (h|⟨m',h1,h2,rfl⟩)
      ·exact (HP.out.more p).2 (.inl h)
      ·by_cases hm':m'=n
       ·subst hm'
        rw [Hkp.out,Hnd.out]
        rfl
       ·exact (HP.out.more _).2 (.inr ⟨m',by omega,h2,rfl⟩)
    case measure=>simp [intOf]
  ·obtain rfl:m=be c:=by omega
   have q1:¬((be c:Nat):Int)<=((be c:Nat):Int)-1:=by omega
   clear hlt
   go_wp2_with fail
   refine (AJ c _).mono ?_
   rintro e W1 ⟨rfl,hk1⟩
   have Hk1:=kA4 hk1
   clear hk1
   go_wp2_with fail
   go_ret
   exact⟨T,b,rfl,⟨HP.out.tr.keep fun k hk=>Hk1.out.block k hk id,HP.out.at_,HP.out.old,HP.out.more,HP.out.ids,HP.out.bel.trans (Hk1.out.below (vH HB.out HP.out.bel.size) fun _ _ h=>h)⟩⟩
def bJ {α β:Type}(f:Nat->α->List β):Nat->List α->List β->List β
 |_,[],out=>out
 |n,x::l,out=>bJ f (n+1) l (out++f n x)
theorem iZ {α β:Type}{f:Nat->α->List β}:∀(n:Nat) (l:List α) (out:List β),bJ f n l out=out++bJ f n l []
 |n,[],out=>by rw [bJ,bJ,uA]
 |n,x::l,out=>by rw [bJ,bJ,iZ (n+1) l (out++f n x),iZ (n+1) l ([]++f n x),uT,uK]
theorem db {α β:Type}{f:Nat->α->List β}{y:β}:∀(n:Nat) (l:List α),y∈bJ f n l []↔∃(i:Nat) (x:α),l[i]?=some x/\y∈f (n+i) x
 |n,[]=>by simp [bJ]
 |n,x::l=>by
  rw [bJ,iZ,uT,vB,db (n+1) l]
  constructor
  ·rintro (h|⟨i,z,hz,h⟩)
   ·exact⟨0,x,rfl,h⟩
   ·exact⟨i+1,z,hz,by rw [show n+(i+1)=n+1+i by omega];exact h⟩
  ·rintro⟨i,z,hz,h⟩
   cases i with
   |zero=>rw [List.getElem?_cons_zero] at hz;rw [qB hz];exact Or.inl h
   |succ i=>exact Or.inr ⟨i,z,hz,by rw [show n+1+i=n+(i+1) by omega];exact h⟩
theorem fC {α β:Type}{f:Nat->α->List β}{m:Nat}(hf:∀n x,(f n x).length<=m):∀(n:Nat) (l:List α) (out:List β),(bJ f n l out).length<=out.length+m*l.length
 |n,[],out=>by simp [bJ]
 |n,x::l,out=>by
  have:=fC hf (n+1) l (out++f n x)
  have h2:=hf n x
  rw [qK] at this
  rw [bJ,qS,Nat.mul_add,Nat.mul_one]
  omega
def ai (p:List Cb):Bool:=decide (p.length<=200) && p.all Cb.sound
def ar (p:List Cb)(h:Hd):Bool:=p.any fun c=>c.has h
theorem bV {p:List Cb}{h:Hd}:ar p h=true↔∃x∈p,x.has h=true:=by simp [ar]
def cN (x:Cb)(n:Nat):Nat->List Cb->Bool
 |_,[]=>!x.sound
 |i,c::r=>bif decide (i≠n) && x.within c && (decide (x≠c) || decide (i<n)) then true else cN x n (i+1) r
theorem oY {x:Cb}{n:Nat}:∀{i:Nat} {l:List Cb},cN x n i l=false->x.sound=true
 |i,[],h=>by simpa [cN] using h
 |i,c::r,h=>by
  rw [cN] at h
  cases hb:(decide (i≠n) && x.within c && (decide (x≠c) || decide (i<n)))
  ·rw [hb,cond_false] at h;exact oY h
  ·rw [hb] at h;cases h
theorem j9 {x:Cb}{n:Nat}:∀{i:Nat} {l:List Cb},cN x n i l=true->x.sound=false\/∃j c,l[j]?=some c/\x.within c=true/\(x≠c\/i+j<n)
 |i,[],h=>by left;simpa [cN] using h
 |i,c::r,h=>by
  rw [cN] at h
  cases hb:(decide (i≠n) && x.within c && (decide (x≠c) || decide (i<n)))
  ·rw [hb,cond_false] at h
   rcases j9 h with h|⟨j,d,h1,h2,h3⟩
   ·exact Or.inl h
   ·exact Or.inr ⟨j+1,d,h1,h2,h3.imp id fun h=>by omega⟩
  ·simp only [qQ,Bool.or_eq_true,vM] at hb
   exact Or.inr ⟨0,c,rfl,hb.1.2,hb.2⟩
def lY (p:List Cb)(n:Nat)(c:Cb):List Cb:=bif cN c n 0 p then [] else [c]
def cX (p:List Cb):List Cb:=bJ (lY p) 0 p []
theorem jd {p:List Cb}{x:Cb}:x∈cX p↔∃n,p[n]?=some x/\cN x n 0 p=false:=by
 rw [cX,db]
 constructor
 ·rintro⟨i,y,hy,h⟩
  rw [vN,lY] at h
  cases hs:cN y i 0 p
  ·rw [hs,cond_false] at h
   rw [qP.1 h]
   exact⟨i,hy,hs⟩
  ·rw [hs] at h;cases h
 ·rintro⟨n,h1,h2⟩
  refine⟨n,x,h1,?_⟩
  rw [vN,lY,h2]
  exact qP.2 rfl
theorem r7 {p:List Cb}:∀x∈cX p,x.sound=true:=fun x hx=>by
 obtain⟨n,_,h⟩:=jd.1 hx
 exact oY h
theorem lz {p:List Cb}{h:Hd}:ar (cX p) h=ar p h:=by
 rw [Bool.eq_iff_iff,bV,bV]
 constructor
 ·rintro⟨x,hx,hh⟩
  obtain⟨n,hn,_⟩:=jd.1 hx
  exact⟨x,qN hn,hh⟩
 ·rintro⟨x,hx,hh⟩
  have key:∀(m:Nat) (x:Cb) (n:Nat),p[n]?=some x->x.has h=true->x.cares*(p.length+1)+n<=m->∃x∈cX p,x.has h=true:=by
   intro m
   induction m with
   |zero=>
    intro x n h1 h2 h3
    cases hs:cN x n 0 p
    ·exact⟨x,jd.2 ⟨n,h1,hs⟩,h2⟩
    ·rcases j9 hs with g|⟨j,c,g1,g2,g3⟩
     ·rw [Cb.has_sound h2] at g;cases g
     ·exfalso
      have hc:=Cb.within_cares g2
      have hn:n=0:=by omega
      have hx0:x.cares*(p.length+1)=0:=by omega
      rcases g3 with g3|g3
      ·have:=hc.2 g3
       have:1*(p.length+1)<=x.cares*(p.length+1):=Nat.mul_le_mul_right _ (by omega)
       omega
      ·omega
   |succ m ih=>
    intro x n h1 h2 h3
    cases hs:cN x n 0 p
    ·exact⟨x,jd.2 ⟨n,h1,hs⟩,h2⟩
    ·rcases j9 hs with g|⟨j,c,g1,g2,g3⟩
     ·rw [Cb.has_sound h2] at g;cases g
     ·have hc:=Cb.within_cares g2
      have hj:j<p.length:=(qD.1 g1).1
      refine ih c j g1 (Cb.within_has g2 h2) ?_
      by_cases e:x=c
      ·subst e
       have:j<n:=by
        rcases g3 with g3|g3
        ·exact absurd rfl g3
        ·omega
       omega
      ·have:=hc.2 e
       have:(c.cares+1)*(p.length+1)<=x.cares*(p.length+1):=Nat.mul_le_mul_right _ (by omega)
       rw [Nat.add_mul,Nat.one_mul] at this
       omega
  obtain⟨n,hn⟩:=List.mem_iff_getElem?.1 hx
  exact key _ x n hn hh (qJ _)
theorem yO (p:List Cb):(cX p).length<=p.length:=by
 have:=fC (f:=lY p) (m:=1) (fun n x=>by rw [lY];cases cN x n 0 p <;> simp) 0 p []
 simpa [cX] using this
def cE (p:List Cb):List Cb × Int:=bif decide ((cX p).length>200) then ([],10) else (cX p,0)
theorem jo {p:List Cb}(h:(cE p).2≠0):cE p=([],10):=by
 rw [cE] at h ⊢
 cases hb:decide ((cX p).length>200)
 ·rw [hb] at h;exact absurd rfl h
 ·rfl
theorem gr {p:List Cb}(h:(cE p).2=0):cE p=(cX p,0)/\(cX p).length<=200:=by
 rw [cE] at h ⊢
 cases hb:decide ((cX p).length>200)
 ·exact⟨rfl,by have:=of_decide_eq_false hb;omega⟩
 ·rw [hb] at h;cases h
theorem iE {p:List Cb}:ai (cE p).1=true:=by
 by_cases h:(cE p).2=0
 ·obtain⟨e,hl⟩:=gr h
  rw [e,ai,qQ,vM,qV]
  exact⟨hl,r7⟩
 ·rw [jo h];rfl
def kI (x:Cb)(n:Nat)(y:Cb):List Cb:=bif x.meets y then [x.met y] else []
def fM (q:List Cb)(n:Nat)(x:Cb):List Cb:=bJ (kI x) 0 q []
def fe (p q:List Cb):List Cb:=bJ (fM q) 0 p []
def aR (p q:List Cb):List Cb × Int:=bif ai p && ai q then cE (fe p q) else ([],2)
theorem sJ {p q:List Cb}{h:Hd}:ar (fe p q) h=(ar p h && ar q h):=by
 rw [Bool.eq_iff_iff,qQ,bV,bV,bV]
 constructor
 ·rintro⟨x,hx,hh⟩
  obtain⟨i,y,hy,hx⟩:=(db _ _).1 hx
  obtain⟨j,z,hz,hx⟩:=(db _ _).1 hx
  rw [kI] at hx
  cases hm:y.meets z
  ·rw [hm] at hx;cases hx
  ·rw [hm,cond_true] at hx
   rw [qP.1 hx,Cb.met_has hm,qQ] at hh
   exact⟨⟨y,qN hy,hh.1⟩,⟨z,qN hz,hh.2⟩⟩
 ·rintro⟨⟨y,hy,h1⟩,⟨z,hz,h2⟩⟩
  obtain⟨i,hi⟩:=List.mem_iff_getElem?.1 hy
  obtain⟨j,hj⟩:=List.mem_iff_getElem?.1 hz
  have hm:=Cb.meets_of h1 h2
  refine⟨y.met z,(db _ _).2 ⟨i,y,hi,(db _ _).2 ⟨j,z,hj,?_⟩⟩,by rw [Cb.met_has hm,h1,h2];rfl⟩
  rw [kI,hm]
  exact qP.2 rfl
def kj (y:Cb)(n:Nat)(x:Cb):List Cb:=x.less y
def cV (y:Cb)(out:List Cb):List Cb:=bJ (kj y) 0 out []
def eV:List Cb->List Cb->List Cb × Int
 |out,[]=>(out,0)
 |out,y::q=>bif decide ((cE (cV y out)).2=0) then eV (cE (cV y out)).1 q else ([],(cE (cV y out)).2)
def aK (p q:List Cb):List Cb × Int:=bif ai p && ai q then eV p q else ([],2)
theorem rF {y:Cb}{out:List Cb}{h:Hd}(ho:∀x∈out,x.sound=true)(hy:y.sound=true):ar (cV y out) h=(ar out h && !y.has h):=by
 rw [Bool.eq_iff_iff,qQ,bV,bV]
 constructor
 ·rintro⟨x,hx,hh⟩
  obtain⟨i,z,hz,hx⟩:=(db _ _).1 hx
  have hz:=qN hz
  obtain⟨g1,g2⟩:=(Cb.less_has z y h (ho z hz) hy).1 ⟨x,hx,hh⟩
  exact⟨⟨z,hz,g1⟩,by rw [g2];rfl⟩
 ·rintro⟨⟨z,hz,g1⟩,g2⟩
  obtain⟨x,hx,hh⟩:=(Cb.less_has z y h (ho z hz) hy).2 ⟨g1,by simpa using g2⟩
  obtain⟨i,hi⟩:=List.mem_iff_getElem?.1 hz
  exact⟨x,(db _ _).2 ⟨i,z,hi,hx⟩,hh⟩
theorem oN:∀(q out:List Cb),(eV out q).2≠0->eV out q=([],10)
 |[],out,h=>absurd rfl h
 |y::q,out,h=>by
  rw [eV] at h ⊢
  by_cases e:(cE (cV y out)).2=0
  ·rw [qE e,cond_true] at h ⊢
   exact oN q _ h
  ·rw [qC e,cond_false,jo e]
theorem sP:∀(q out:List Cb),(eV out q).2=0->(∀y∈q,y.sound=true)->ai out=true->ai (eV out q).1=true/\∀h,ar (eV out q).1 h=(ar out h && !ar q h)
 |[],out,_,_,ho=>⟨ho,fun h=>by simp [eV,ar]⟩
 |y::q,out,h,hq,ho=>by
  rw [eV] at h ⊢
  by_cases e:(cE (cV y out)).2=0
  ·rw [qE e,cond_true] at h ⊢
   obtain⟨g1,g2⟩:=sP q _ h (fun y hy=>hq y (qZ _ hy)) iE
   refine⟨g1,fun hd=>?_⟩
   rw [g2,(gr e).1]
   show (ar (cX (cV y out)) hd && _)=_
   have ho':∀x∈out,x.sound=true:=by
    rw [ai,qQ,qV] at ho
    exact ho.2
   rw [lz,rF ho' (hq y vD)]
   simp only [ar,List.any_cons]
   cases out.any (fun c=>c.has hd) <;> cases y.has hd <;> cases q.any (fun c=>c.has hd) <;> rfl
  ·rw [qC e,cond_false] at h
   exact absurd h e
def pick (p:List Cb):Option Cb:=p.find? Cb.sound
theorem v6 {p:List Cb}(h:ai p=true):pick p=p.head?:=by
 rw [ai,qQ,qV] at h
 cases p with
 |nil=>rfl
 |cons x l=>rw [pick,List.find?_cons_of_pos (h.2 x vD)];rfl
def oi (a:aG)(id:Int)(c:Cb):List Cb->List aG
 |[]=>[]
 |x::p=>[⟨a.ids++[id],x.value,x::p⟩]
def fL (a:aG):List Cb->List aG
 |[]=>[]
 |x::p=>[⟨a.ids,x.value,x::p⟩]
def bE (a:aG)(id:Int)(c:Cb):List aG × Int :=
 bif decide ((aR a.pile [c]).2=0) then (bif decide ((aK a.pile [c]).2=0) then (oi a id c (aR a.pile [c]).1++fL a (aK a.pile [c]).1,0) else ([],(aK a.pile [c]).2)) else ([],(aR a.pile [c]).2)
def aT (id:Int)(c:Cb):List aG->List aG->List aG × Int
 |[],out=>bif decide (out.length>600) then ([],11) else (out,0)
 |a::l,out=>bif decide ((bE a id c).2=0) then aT id c l (out++(bE a id c).1) else ([],(bE a id c).2)
def cn:Nat->List Cb->List aG->List aG × Int
 |_,[],out=>(out,0)
 |id,c::l,out=>bif decide ((aT id c out []).2=0) then cn (id+1) l (aT id c out []).1 else ([],(aT id c out []).2)
def dS:aG:=⟨[],Hd.zero,[Cb.zero]⟩
def bn (preds:List Cb):List aG × Int:=bif decide (preds.length>500) then ([],6) else bif preds.all Cb.sound then cn 0 preds [dS] else ([],2)
structure nH (n:Nat)(a:aG):Prop where
 pile:ai a.pile=true
 ids:∀i∈a.ids,i<n
 up:a.ids.Pairwise (· < ·)
theorem kA {c:Cb}(h:c.sound=true):ai [c]=true:=by simp [ai,h]
theorem fI {p:List Cb}{c:Cb}(hp:ai p=true)(hc:c.sound=true):((aR p [c]).2=0\/aR p [c]=([],10))/\((aR p [c]).2=0->ai (aR p [c]).1=true/\∀h,ar (aR p [c]).1 h=(ar p h && c.has h)):=by
 rw [aR,hp,kA hc,uZ,cond_true]
 refine⟨?_,fun e=>⟨iE,fun h=>?_⟩⟩
 ·by_cases e:(cE (fe p [c])).2=0
  ·exact Or.inl e
  ·exact Or.inr (jo e)
 ·rw [(gr e).1]
  show ar (cX _) h=_
  rw [lz,sJ]
  simp [ar]
theorem fK {p:List Cb}{c:Cb}(hp:ai p=true)(hc:c.sound=true):((aK p [c]).2=0\/aK p [c]=([],10))/\((aK p [c]).2=0->ai (aK p [c]).1=true/\∀h,ar (aK p [c]).1 h=(ar p h && !c.has h)):=by
 rw [aK,hp,kA hc,uZ,cond_true]
 refine⟨?_,fun e=>?_⟩
 ·by_cases e:(eV p [c]).2=0
  ·exact Or.inl e
  ·exact Or.inr (oN _ _ e)
 ·obtain⟨g1,g2⟩:=sP [c] p e (fun y hy=>by rw [qP.1 hy];exact hc) hp
  exact⟨g1,fun h=>by rw [g2];simp [ar]⟩
structure mS (cs:List Cb)(l:List aG):Prop where
 all:∀h,∃a∈l,ar a.pile h=true
 like:∀a∈l,∀h g,ar a.pile h=true->ar a.pile g=true->∀c∈cs,c.has h=c.has g
 ok:∀a∈l,nH cs.length a
 head:∀a∈l,ar a.pile a.head=true
 len:l.length<=600
theorem eE {a:aG}{id:Int}{c:Cb}{x:aG}(h0:(bE a id c).2=0)(hp:ai a.pile=true)(hc:c.sound=true)(hx:x∈(bE a id c).1) :
  ai x.pile=true/\ar x.pile x.head=true/\((x.ids=a.ids++[id]/\∀h,ar x.pile h=(ar a.pile h && c.has h))\/(x.ids=a.ids/\∀h,ar x.pile h=(ar a.pile h && !c.has h))):=by
 rw [bE] at h0 hx
 by_cases e1:(aR a.pile [c]).2=0
 ·by_cases e2:(aK a.pile [c]).2=0
  ·rw [qE e1,qE e2,cond_true,cond_true] at hx
   obtain⟨m1,m2⟩:=(fI hp hc).2 e1
   obtain⟨l1,l2⟩:=(fK hp hc).2 e2
   have hd:∀(y:Cb) (p:List Cb),ai (y::p)=true->ar (y::p) y.value=true:=by
    intro y p h
    rw [ai,qQ,qV] at h
    rw [bV]
    exact⟨y,vD,Cb.has_value (h.2 y vD)⟩
   rcases vB.1 hx with hx|hx
   ·revert hx m1 m2
    generalize (aR a.pile [c]).1=p
    intro m1 m2 hx
    cases p with
    |nil=>cases hx
    |cons y p=>
     rw [oi] at hx
     rw [qP.1 hx]
     exact⟨m1,hd y p m1,Or.inl ⟨rfl,m2⟩⟩
   ·revert hx l1 l2
    generalize (aK a.pile [c]).1=p
    intro m1 m2 hx
    cases p with
    |nil=>cases hx
    |cons y p=>
     rw [fL] at hx
     rw [qP.1 hx]
     exact⟨m1,hd y p m1,Or.inr ⟨rfl,m2⟩⟩
  ·rw [qE e1,qC e2,cond_true,cond_false] at h0
   exact absurd h0 e2
 ·rw [qC e1,cond_false] at h0
  exact absurd h0 e1
theorem o0 {a:aG}{id:Int}{c:Cb}{h:Hd}(h0:(bE a id c).2=0)(hp:ai a.pile=true)(hc:c.sound=true)(hh:ar a.pile h=true):∃x∈(bE a id c).1,ar x.pile h=true:=by
 rw [bE] at h0 ⊢
 by_cases e1:(aR a.pile [c]).2=0
 ·by_cases e2:(aK a.pile [c]).2=0
  ·rw [qE e1,qE e2,cond_true,cond_true]
   have m2:=((fI hp hc).2 e1).2 h
   have l2:=((fK hp hc).2 e2).2 h
   rw [hh] at m2 l2
   cases hq:c.has h
   ·rw [hq] at l2
    revert l2
    generalize (aK a.pile [c]).1=p
    intro l2
    cases p with
    |nil=>cases l2
    |cons y p=>exact⟨_,List.mem_append_right _ (qP.2 rfl),l2⟩
   ·rw [hq] at m2
    revert m2
    generalize (aR a.pile [c]).1=p
    intro l2
    cases p with
    |nil=>cases l2
    |cons y p=>exact⟨_,vS _ (qP.2 rfl),l2⟩
  ·rw [qE e1,qC e2,cond_true,cond_false] at h0
   exact absurd h0 e2
 ·rw [qC e1,cond_false] at h0
  exact absurd h0 e1
theorem yv {a:aG}{id:Int}{c:Cb}(hp:ai a.pile=true)(hc:c.sound=true):(bE a id c).2=0\/bE a id c=([],10):=by
 rw [bE]
 rcases (fI hp hc).1 with e1|e1
 ·rw [qE e1,cond_true]
  rcases (fK hp hc).1 with e2|e2
  ·rw [qE e2];exact Or.inl rfl
  ·rw [e2];exact Or.inr rfl
 ·rw [e1];exact Or.inr rfl
theorem jh {id:Int}{c:Cb}(hc:c.sound=true):∀(l out:List aG),(∀a∈l,ai a.pile=true)->((aT id c l out).2=0\/aT id c l out=([],10)\/aT id c l out=([],11)) /\
  ((aT id c l out).2=0->(aT id c l out).1.length<=600/\(∀x∈(aT id c l out).1,x∈out\/∃a∈l,(bE a id c).2=0/\x∈(bE a id c).1)/\(∀x∈out,x∈(aT id c l out).1)/\(∀a∈l,(bE a id c).2=0/\∀x∈(bE a id c).1,x∈(aT id c l out).1))
 |[],out,hl=>by
  rw [aT]
  by_cases e:out.length>600
  ·rw [qE e]
   exact⟨Or.inr (Or.inr rfl),fun h=>by cases h⟩
  ·rw [qC e]
   exact⟨Or.inl rfl,fun _=>⟨by show out.length<=600;omega,fun x hx=>Or.inl hx,fun x hx=>hx,fun a ha=>by cases ha⟩⟩
 |a::l,out,hl=>by
  rw [aT]
  rcases yv (id:=id) (hl a vD) hc with e|e
  ·rw [qE e,cond_true]
   obtain⟨g1,g2⟩:=jh hc l (out++(bE a id c).1) fun b hb=>hl b (qZ _ hb)
   refine⟨g1,fun h0=>?_⟩
   obtain⟨k1,k2,k3,k4⟩:=g2 h0
   refine⟨k1,fun x hx=>?_,fun x hx=>k3 x (vS _ hx),fun b hb=>?_⟩
   ·rcases k2 x hx with hx|⟨b,hb,h⟩
    ·rcases vB.1 hx with hx|hx
     ·exact Or.inl hx
     ·exact Or.inr ⟨a,vD,e,hx⟩
    ·exact Or.inr ⟨b,qZ _ hb,h⟩
   ·rcases vA.1 hb with rfl|hb
    ·exact⟨e,fun x hx=>k3 x (List.mem_append_right _ hx)⟩
    ·exact k4 b hb
  ·rw [e]
   exact⟨Or.inr (Or.inl rfl),fun h=>by cases h⟩
theorem oU:∀(l cs:List Cb) (out:List aG),(∀c∈l,c.sound=true)->mS cs out->((cn cs.length l out).2=0\/cn cs.length l out=([],10)\/cn cs.length l out=([],11))/\((cn cs.length l out).2=0->mS (cs++l) (cn cs.length l out).1)
 |[],cs,out,hl,hP=>⟨Or.inl rfl,fun _=>by rw [uA];exact hP⟩
 |c::l,cs,out,hl,hP=>by
  have hc:=hl c vD
  rw [cn]
  obtain⟨g1,g2⟩:=jh (id:=cs.length) hc out [] fun a ha=>(hP.ok a ha).pile
  rcases g1 with e|e|e
  ·rw [qE e,cond_true]
   obtain⟨k1,k2,k3,k4⟩:=g2 e
   have hN:mS (cs++[c]) (aT cs.length c out []).1:=by
    have hm:∀x∈(aT cs.length c out []).1,∃a∈out,(bE a cs.length c).2=0/\x∈(bE a cs.length c).1:=fun x hx=>(k2 x hx).elim (fun h=>by cases h) id
    refine⟨fun h=>?_,fun x hx h g hh hg d hd=>?_,fun x hx=>?_,fun x hx=>?_,k1⟩
    ·obtain⟨a,ha,hh⟩:=hP.all h
     obtain⟨x,hx,hh⟩:=o0 (k4 a ha).1 (hP.ok a ha).pile hc hh
     exact⟨x,(k4 a ha).2 x hx,hh⟩
    ·obtain⟨a,ha,h0,hx⟩:=hm x hx
     obtain⟨_,_,hq⟩:=eE h0 (hP.ok a ha).pile hc hx
     rcases vB.1 hd with hd|hd
     ·refine hP.like a ha h g ?_ ?_ d hd
      ·rcases hq with⟨_,hq⟩|⟨_,hq⟩
       ·rw [hq,qQ] at hh;exact hh.1
       ·rw [hq,qQ] at hh;exact hh.1
      ·rcases hq with⟨_,hq⟩|⟨_,hq⟩
       ·rw [hq,qQ] at hg;exact hg.1
       ·rw [hq,qQ] at hg;exact hg.1
     ·rw [qP.1 hd]
      rcases hq with⟨_,hq⟩|⟨_,hq⟩
      ·rw [hq,qQ] at hh hg;rw [hh.2,hg.2]
      ·rw [hq,qQ,Bool.not_eq_true'] at hh hg;rw [hh.2,hg.2]
    ·obtain⟨a,ha,h0,hx⟩:=hm x hx
     obtain⟨h1,h2,hq⟩:=eE h0 (hP.ok a ha).pile hc hx
     have hi:=(hP.ok a ha).ids
     have hu:=(hP.ok a ha).up
     rw [qK,vP]
     refine⟨h1,?_,?_⟩
     ·rcases hq with⟨hq,_⟩|⟨hq,_⟩
      ·rw [hq]
       intro i hi'
       rcases vB.1 hi' with hi'|hi'
       ·have:=hi i hi';omega
       ·rw [qP.1 hi'];omega
      ·rw [hq]
       intro i hi'
       have:=hi i hi';omega
     ·rcases hq with⟨hq,_⟩|⟨hq,_⟩
      ·rw [hq,List.pairwise_append]
       exact⟨hu,List.pairwise_singleton _ _,fun x hx y hy=>by rw [qP.1 hy];exact hi x hx⟩
      ·rw [hq];exact hu
    ·obtain⟨a,ha,h0,hx⟩:=hm x hx
     exact (eE h0 (hP.ok a ha).pile hc hx).2.1
   have:=oU l (cs++[c]) (aT cs.length c out []).1 (fun d hd=>hl d (qZ _ hd)) hN
   rw [qK,vP,uK] at this
   exact this
  ·rw [e]
   exact⟨Or.inr (Or.inl rfl),fun h=>by cases h⟩
  ·rw [e]
   exact⟨Or.inr (Or.inr rfl),fun h=>by cases h⟩
theorem Gp:mS [] [dS]:=by
 refine⟨fun h=>⟨dS,qP.2 rfl,?_⟩,fun a ha h g _ _ c hc=>(by cases hc),fun a ha=>?_,fun a ha=>?_,by decide⟩
 ·simp [dS,ar,Cb.has_zero]
 ·rw [qP.1 ha]
  exact⟨by decide,fun i hi=>(by cases hi),List.Pairwise.nil⟩
 ·rw [qP.1 ha]
  simp [dS,ar,Cb.has_zero]
def Pt.zero:Pt:=⟨0,0,0,0,0⟩
def Rl.portIs (r:Rl)(kind:Int)(ports:List Pt):Bool:=decide (r.act.table=0) && decide (0<=r.act.port) && decide (r.act.port<ports.length) && decide ((ports.getD r.act.port.toNat Pt.zero).kind=kind)
theorem A6 (r:Rl)(kind:Int)(ports:List Pt):aa Tryz.prog 199 [.agg (cRl r),.i .i64 kind,.sl (ports.map cPt)] (.b (r.portIs kind ports)):=by
 refine jb Tryz.func199 ?_
 refine jB ?_;refine wF ?_;refine wH rfl ?_;refine jB ?_;refine wF ?_;refine wH rfl ?_;refine jB ?_
 refine AW.text ?_
 have hlen:(ports.map cPt).length=ports.length:=qG ..
 by_cases h1:r.act.table=0
 ·by_cases h2:0<=r.act.port
  ·obtain⟨n,hn⟩:=Int.eq_ofNat_of_zero_le h2
   by_cases h3:r.act.port<((ports.map cPt).length:Nat)
   ·have h4:n<ports.length:=by rw [hlen] at h3;omega
    refine RG.runO ae 0 [(14,.b true),(17,.b true),(23,.b true),(27,.i .i64 (n:Nat))] 400 rfl jD ?_
    refine RG.opS rfl (aq rfl (tk rfl) rfl (tk rfl) rfl rfl (show (ports.map cPt)[n]?=some (cPt ports[n]) by rw [qF,qA h4];rfl) rfl) rfl ?_
    refine zH ?_
    exact congrArg AV.b (by rw [hlen] at h3;simp [Rl.portIs,h1,h2,h3,hn,h4])
   ·refine RG.runO ae 0 [(14,.b true),(17,.b true),(23,.b false)] 400 rfl jD ?_
    refine zH ?_
    exact congrArg AV.b (by rw [hlen] at h3;simp [Rl.portIs,h3])
  ·refine RG.runO ae 0 [(14,.b true),(17,.b false)] 400 rfl jD ?_
   refine zH ?_
   exact congrArg AV.b (by simp [Rl.portIs,h2])
 ·refine RG.runO ae 0 [(14,.b false)] 400 rfl jD ?_
  refine zH ?_
  exact congrArg AV.b (by simp [Rl.portIs,h1])
def Rl.does (r:Rl)(table:Int)(ports:List Pt):Bool :=
 if r.act.kind=1 then decide (r.act.port=0) && decide (r.act.table=0)
 else if r.act.kind=2 then r.portIs 1 ports
 else if r.act.kind=3 then r.portIs 2 ports
 else if r.act.kind=4 then decide (r.act.port=0) && decide (table<r.act.table) && decide (r.act.table<3)
 else false
theorem Fm (r:Rl)(table:Int)(ports:List Pt):aa Tryz.prog 154 [.agg (cRl r),.i .i64 table,.sl (ports.map cPt)] (.b (r.does table ports)):=by
 refine jb Tryz.func154 ?_
 refine jA ?_
 refine AW.cond rfl (fun h=>?_) (fun h=>?_)
 ·have h1:r.act.kind=1:=of_decide_eq_true h
  refine zB ?_
  by_cases h2:r.act.port=0
  ·refine RG.runO ae 0 [(15,.b true)] 400 rfl jD ?_
   refine zH ?_
   exact congrArg AV.b (by simp [Rl.does,h1,h2])
  ·refine RG.runO ae 0 [(15,.b false)] 400 rfl jD ?_
   refine zH ?_
   exact congrArg AV.b (by simp [Rl.does,h1,h2])
 have h1:¬r.act.kind=1:=of_decide_eq_false h
 clear h
 refine jA ?_
 refine AW.cond rfl (fun h=>?_) (fun h=>?_)
 ·have h2:r.act.kind=2:=of_decide_eq_true h
  refine jA ?_
  refine jc (A6 r 1 ports) ?_;refine jH ?_
  refine jR ?_
  exact congrArg AV.b (by simp [Rl.does,h2])
 have h2:¬r.act.kind=2:=of_decide_eq_false h
 clear h
 refine jA ?_
 refine AW.cond rfl (fun h=>?_) (fun h=>?_)
 ·have h3:r.act.kind=3:=of_decide_eq_true h
  refine jA ?_
  refine jc (A6 r 2 ports) ?_;refine jH ?_
  refine jR ?_
  exact congrArg AV.b (by simp [Rl.does,h3])
 have h3:¬r.act.kind=3:=of_decide_eq_false h
 clear h
 refine jA ?_
 refine AW.cond rfl (fun h=>?_) (fun h=>?_)
 ·have h4:r.act.kind=4:=of_decide_eq_true h
  refine zB ?_
  by_cases h5:r.act.port=0
  ·by_cases h6:table<r.act.table
   ·refine RG.runO ae 0 [(37,.b true),(43,.b true)] 400 rfl jD ?_
    refine zH ?_
    exact congrArg AV.b (by simp [Rl.does,h4,h5,h6])
   ·refine RG.runO ae 0 [(37,.b true),(43,.b false)] 400 rfl jD ?_
    refine zH ?_
    exact congrArg AV.b (by simp [Rl.does,h4,h6])
  ·refine RG.runO ae 0 [(37,.b false)] 400 rfl jD ?_
   refine zH ?_
   exact congrArg AV.b (by simp [Rl.does,h4,h5])
 have h4:¬r.act.kind=4:=of_decide_eq_false h
 clear h
 refine zR ?_
 exact congrArg AV.b (by simp [Rl.does,h1,h2,h3,h4])
def Rl.sound (r:Rl)(table:Int)(ports:List Pt):Bool:=decide (0<=r.prio) && decide (r.prio<=1048576) && r.mat.sound && r.act.set.sound && r.does table ports
theorem tn (r:Rl)(table:Int)(ports:List Pt)(q:Bool)(hq:r.sound table ports=q):aa Tryz.prog 110 [.agg (cRl r),.i .i64 table,.sl (ports.map cPt)] (.b q):=by
 subst hq
 refine jb Tryz.func110 ?_
 refine jB ?_;refine wF ?_;refine wH rfl ?_;refine jB ?_
 refine AW.text ?_
 by_cases h1:0<=r.prio
 ·by_cases h2:r.prio<=1048576
  ·refine RG.runO ae 0 [(9,.b true),(13,.b true)] 400 rfl jD ?_
   cases h3:r.mat.sound
   ·refine RG.callS rfl rfl rfl rfl rfl (aV r.mat _ h3) rfl rfl ?_;refine jH ?_
    refine jR ?_
    exact congrArg AV.b (by simp [Rl.sound,h3])
   ·refine RG.callS rfl rfl rfl rfl rfl (aV r.mat _ h3) rfl rfl ?_;refine jH ?_
    cases h4:r.act.set.sound
    ·refine RG.callS rfl rfl rfl rfl rfl (aV r.act.set _ h4) rfl rfl ?_;refine jH ?_
     refine jR ?_
     exact congrArg AV.b (by simp [Rl.sound,h4])
    ·refine RG.callS rfl rfl rfl rfl rfl (aV r.act.set _ h4) rfl rfl ?_;refine jH ?_
     refine jc (Fm r table ports) ?_;refine jH ?_
     refine jR ?_
     exact congrArg AV.b (by simp [Rl.sound,h1,h2,h3,h4])
  ·refine RG.runO ae 0 [(9,.b true),(13,.b false)] 400 rfl jD ?_
   refine zH ?_
   exact congrArg AV.b (by simp [Rl.sound,h2])
 ·refine RG.runO ae 0 [(9,.b false)] 400 rfl jD ?_
  refine zH ?_
  exact congrArg AV.b (by simp [Rl.sound,h1])
theorem Ga (r:Rl)(h:Hd):aa Tryz.prog 218 [.agg (cRl r),.agg (cHd h)] (.agg (cHd (h.set r.act.set))):=by
 refine jb Tryz.func218 ?_
 refine jA ?_
 refine jc (E8 h r.act.set) ?_;refine jH ?_
 exact zS
theorem wZ (a:Int):aa Tryz.prog 197 [.i .i64 a] (.b false):=by
 refine jb Tryz.func197 ?_
 refine zR ?_
 exact congrArg AV.b (by simp)
def du (a b:Int):Int:=if a<b then -1 else if b<a then 1 else 0
theorem jk (a b:Int):aa Tryz.prog 258 [.i .i64 a,.i .i64 b] (.i .i64 (du a b)):=by
 refine jb Tryz.func258 ?_
 refine jA ?_
 refine jc (wZ a) ?_;refine jH ?_
 refine jc (wZ b) ?_;refine jH ?_
 refine zF ?_
 refine zF ?_
 refine AW.cond rfl (fun h=>?_) (fun h=>?_)
 ·refine jA ?_
  refine jR ?_
  rw [du,if_pos (of_decide_eq_true h)]
  rfl
 ·have h1:=of_decide_eq_false h
  clear h
  refine jA ?_
  refine AW.cond rfl (fun h=>?_) (fun h=>?_)
  ·refine jA ?_
   refine jR ?_
   rw [du,if_neg h1,if_pos (of_decide_eq_true h)]
   rfl
  ·refine jA ?_
   refine jR ?_
   rw [du,if_neg h1,if_neg (of_decide_eq_false h)]
   rfl
def orI:List Int->Int
 |[]=>0
 |x::xs=>if x≠0 then x else orI xs
theorem E9 (l:List Int):aa Tryz.prog 257 [.sl (l.map cI)] (.i .i64 (orI l)):=by
 refine jb Tryz.func257 ?_
 refine jA ?_
 refine AW.lens 6 rfl fun hm=>?_
 rw [qG] at hm
 refine AW.loopL (ι:=Nat) (fun k=>[(3,.i .i64 0),(6,.sl (l.map cI)),(7,.i .i64 (l.map cI).length),(8,.i .i64 (k:Nat))]) (fun k=>[]) (fun k=>k<=l.length/\orI (l.drop k)=orI l) (fun k=>l.length-k) 0 ⟨qR _,rfl⟩ jW trivial fun k hk=>?_
 obtain⟨hk,hf⟩:=hk
 refine jA ?_
 refine AW.cond rfl (fun h=>?_) (fun h=>?_)
 ·have h:k<l.length:=by simpa using h
  rw [qT h,orI] at hf
  refine jA ?_
  refine RG.opS rfl (aq rfl (tk rfl) rfl (tk rfl) rfl rfl (show (l.map cI)[k]?=some (cI l[k]) by simp [h]) rfl) rfl ?_
  refine jH ?_
  refine AW.cond rfl (fun hne=>?_) (fun hne=>?_)
  ·have hne:l[k]≠0:=by simpa using hne
   refine zR ?_
   rw [if_pos hne] at hf
   rw [<- hf]
   rfl
  ·have hne:¬l[k]≠0:=by simpa using hne
   rw [if_neg hne] at hf
   refine jA ?_
   exact⟨k+1,⟨⟨by omega,hf⟩,by omega⟩,jV,trivial⟩
 ·have h:¬k<l.length:=by simpa using h
  obtain rfl:k=l.length:=by omega
  refine zE ?_
  refine jR ?_
  rw [vJ] at hf
  rw [<- hf]
  rfl
def Sp.zero:Sp:=⟨0,0⟩
def Ac.zero:Ac:=⟨0,0,0,Cb.zero⟩
def Rl.zero:Rl:=⟨0,Cb.zero,Ac.zero⟩
def fw:List (List Rl)->Int->Int
 |[],n=>n
 |l::t,n=>fw t (IntKind.i64.wrap (n+(l.length:Nat)))
def fb (n:Nat)(m:Nat)(ports:List Pt):List Rl->Bool
 |[]=>true
 |r::l=>bif r.sound n ports && decide (r.act.table<(m:Nat)) then fb n m ports l else false
def dv (m:Nat)(ports:List Pt):Nat->List (List Rl)->Bool
 |_,[]=>true
 |n,l::t=>bif fb n m ports l then dv m ports (n+1) t else false
def bZ (t:List (List Rl))(ports:List Pt):Int :=
 if t.length=0\/t.length>3 then 4 else if fw t 0>96 then 12 else if dv t.length ports 0 t then 0 else 2
def fU (t:List (List Pt))(n a:Nat)(p:Pt):Bool :=
 decide (p.tenant=0) && (decide (1<=p.cost) && (decide (p.cost<=1000) && (decide (0<=p.peer) && (decide (p.peer<t.length) && (decide (p.peer≠n) && (decide (0<=p.at_) && (decide (p.at_<(t.getD p.peer.toNat []).length) && decide ((t.getD p.peer.toNat []).getD p.at_.toNat Pt.zero=⟨2,0,n,a,p.cost⟩))))))))
def cQ (t:List (List Pt))(n a:Nat)(p:Pt):Bool :=
 if p.kind=0 then decide (p=Pt.zero) else if p.kind=1 then decide (p=⟨1,p.tenant,0,0,0⟩) && (decide (0<=p.tenant) && decide (p.tenant<4)) else if p.kind=2 then fU t n a p else false
def eZ:List (List Pt)->Bool
 |[]=>true
 |r::l=>bif decide (r.length>6) then false else eZ l
def kx (t:List (List Pt))(n:Nat):Nat->List Pt->Bool
 |_,[]=>true
 |a,p::l=>bif cQ t n a p then kx t n (a+1) l else false
def fR (t:List (List Pt)):Nat->List (List Pt)->Bool
 |_,[]=>true
 |n,r::l=>bif kx t n 0 r then fR t (n+1) l else false
def aY (t:List (List Pt)):Int :=
 if t.length=0\/t.length>6 then 4 else if eZ t then (if fR t 0 t then 0 else 2) else 4
def km (n:Nat)(a:Nat)(p:Pt):List Sp:=bif decide (p.kind=1) then [⟨n,a⟩] else []
def eY (n:Nat)(r:List Pt):List Sp:=bJ (km n) 0 r []
def aI (t:List (List Pt)):List Sp:=bJ eY 0 t []
def bf (t:List (List Pt))(s:Sp):Pt:=(t.getD s.sw.toNat []).getD s.port.toNat Pt.zero
def cK (t:List (List Pt))(s:Sp):Bool:=decide (0<=s.sw) && (decide (s.sw<t.length) && (decide (0<=s.port) && decide (s.port<(t.getD s.sw.toNat []).length)))
def aZ (t:List (List Pt))(s:Sp):Int:=bif cK t s && decide ((bf t s).kind=1) then (bf t s).tenant else -1
def bB (p:Pol)(n:Int):Bool:=decide (0<=n) && decide (n<p.tenants)
def gq (c:Cf):List Sp->Bool
 |[]=>true
 |s::l=>bif bB c.pol (bf c.topo.ports s).tenant then gq c l else false
def dm (c:Cf):Bool:=decide (1<=c.pol.tenants) && (decide (c.pol.tenants<=4) && (decide (c.pol.peers.length<=16) && (decide (c.pol.ways.length<=4) && gq c (aI c.topo.ports))))
def je (p:Pol):List (Int × Int)->Bool
 |[]=>true
 |x::l=>bif bB p x.1 && bB p x.2 then je p l else false
def lK (p:Pol)(m:Nat):List Wy->Bool
 |[]=>true
 |w::l=>bif bB p w.fro && (bB p w.to && (decide (0<=w.via) && decide (w.via<(m:Nat)))) then lK p m l else false
def ko (c:Cf):Bool:=je c.pol c.pol.peers && lK c.pol c.topo.ports.length c.pol.ways
def dl (ports:List (List Pt)):Nat->List (List (List Rl))->Int
 |_,[]=>0
 |n,t::l=>if bZ t (ports.getD n [])=0 then dl ports (n+1) l else bZ t (ports.getD n [])
def Cf.sound (c:Cf):Int :=
 if aY c.topo.ports=0 then (bif dm c then (bif ko c then (if c.tables.length=c.topo.ports.length then dl c.topo.ports 0 c.tables else 4) else 2) else 4) else aY c.topo.ports
def gz (p:Pol)(a b:Int):Bool:=bB p a && (bB p b && (decide (a=b) || p.peers.any fun x=>decide (x=(a,b)) || decide (x=(b,a))))
def yR (a b:Int)(n:Nat)(w:Wy):List Int:=bif decide (w.fro=a) && decide (w.to=b) then [w.via] else []
def vj (p:Pol)(a b:Int):List Int:=bJ (yR a b) 0 p.ways []
def bl (c:Cf)(s:Sp)(v:Int):Cb:=Cb.make (((Hd.zero.put 88 24 (bQ ((bf c.topo.ports s).tenant+1))).put 112 8 (bQ v))) (bO 88 40)
def gV (h:Hd):Nat->List Rl->Option (Nat × Int)->Option (Nat × Int)
 |_,[],b=>b
 |i,r::l,b=>gV h (i+1) l (bif r.mat.has h && b.all (fun q=>decide (q.2<r.prio)) then some (i,r.prio) else b)
def fnd (l:List Rl)(h:Hd):Option Nat:=(gV h 0 l none).map (·.1)
def aX (c:Cf)(n t:Nat):List Rl:=(c.tables.getD n []).getD t []
def goF (c:Cf):Nat->Nat->Nat->Hd->List Hop->Run
 |0,_,_,_,hops=>⟨4,Sp.zero,hops⟩
 |f+1,n,t,h,hops=>
  match fnd (aX c n t) h with
  |none=>⟨3,Sp.zero,hops++[⟨n,t,-1,h⟩]⟩
  |some r=>
   if ((aX c n t).getD r Rl.zero).act.kind=4 then goF c f n ((aX c n t).getD r Rl.zero).act.table.toNat (h.set ((aX c n t).getD r Rl.zero).act.set) (hops++[⟨n,t,r,h⟩])
   else if ((aX c n t).getD r Rl.zero).act.kind=3 then goF c f (bf c.topo.ports ⟨n,((aX c n t).getD r Rl.zero).act.port⟩).peer.toNat 0 (h.set ((aX c n t).getD r Rl.zero).act.set) (hops++[⟨n,t,r,h⟩])
   else if ((aX c n t).getD r Rl.zero).act.kind=2 then ⟨2,⟨n,((aX c n t).getD r Rl.zero).act.port⟩,hops++[⟨n,t,r,h⟩]⟩
   else ⟨1,Sp.zero,hops++[⟨n,t,r,h⟩]⟩
def bD (c:Cf)(s:Sp)(h:Hd)(v:Int)(most:Nat):Run:=goF c most s.sw.toNat 0 (h.set (bl c s v)) []
def gJ (r:Run)(n:Int):Bool:=r.hops.any fun h=>decide (h.sw=n)
def cv (c:Cf)(s:Sp)(r:Run):Int :=
 if r.fin=3 then 1 else if r.fin=4 then 2 else if r.fin=2 then
  (bif gz c.pol (aZ c.topo.ports s) (aZ c.topo.ports r.at_) then (bif (vj c.pol (aZ c.topo.ports s) (aZ c.topo.ports r.at_)).any (fun n=>!gJ r n) then 4 else 0) else 3)
 else 0
def ew (l:List Cb)(x:Cb):List Cb:=bif decide (x∈l) then l else l++[x]
def cS:List Cb->List Cb->List Cb
 |l,[]=>l
 |l,x::xs=>cS (ew l x) xs
def bu (c:Cf):List Rl:=c.tables.flatten.flatten
def ju:List Cb->List Rl->List Cb
 |l,[]=>l
 |l,r::rs=>ju (bif decide (r.act.set=Cb.zero) then l else ew l r.act.set) rs
def eJ (c:Cf)(v:Int):List Cb:=ju (cS [] ((aI c.topo.ports).map fun s=>bl c s v)) (bu c)
def cg (p:Cb):List Cb->List Cb->List Cb
 |[],all=>all
 |s::sets,all=>cg p sets (bif p.hits s then ew all (p.before s) else all)
def cM (sets:List Cb):Nat->Nat->List Cb->List Cb
 |0,_,all=>all
 |f+1,n,all=>bif decide (n<all.length) && decide (all.length<=500) then cM sets f (n+1) (cg (all.getD n Cb.zero) sets all) else all
def aL (c:Cf)(v:Int):List Cb:=cM (eJ c v) 501 0 (cS [] ((bu c).map Rl.mat))
theorem kN {l:List Cb}{x y:Cb}:y∈ew l x↔y∈l\/y=x:=by
 rw [ew]
 by_cases h:x∈l
 ·rw [qE h,cond_true]
  exact⟨Or.inl,fun H=>H.elim id fun e=>e ▸ h⟩
 ·rw [qC h,cond_false,vB,qP]
theorem tE {l:List Cb}{x:Cb}:∃m,ew l x=l++m:=by
 rw [ew]
 by_cases h:x∈l
 ·exact⟨[],by rw [qE h,cond_true,uA]⟩
 ·exact⟨[x],by rw [qC h,cond_false]⟩
theorem gX {y:Cb}:∀{xs l:List Cb},y∈cS l xs↔y∈l\/y∈xs
 |[],l=>by simp [cS]
 |x::xs,l=>by rw [cS,gX,kN,vA,or_assoc]
theorem oS {y:Cb}:∀{rs:List Rl} {l:List Cb},y∈ju l rs↔y∈l\/∃r∈rs,r.act.set=y/\y≠Cb.zero
 |[],l=>by simp [ju]
 |r::rs,l=>by
  rw [ju,oS]
  by_cases h:r.act.set=Cb.zero
  ·rw [qE h,cond_true]
   refine or_congr Iff.rfl ⟨fun ⟨q,hq,H⟩=>⟨q,qZ _ hq,H⟩,fun ⟨q,hq,H⟩=>?_⟩
   rcases vA.1 hq with rfl|hq
   ·exact absurd (H.1.symm.trans h) H.2
   ·exact⟨q,hq,H⟩
  ·rw [qC h,cond_false,kN,or_assoc]
   refine or_congr Iff.rfl ⟨?_,fun ⟨q,hq,H⟩=>?_⟩
   ·rintro (e|⟨q,hq,H⟩)
    ·exact⟨r,vD,e.symm,by rw [e];exact h⟩
    ·exact⟨q,qZ _ hq,H⟩
   ·rcases vA.1 hq with rfl|hq
    ·exact Or.inl H.1.symm
    ·exact Or.inr ⟨q,hq,H⟩
theorem oo {c:Cf}{v:Int}{y:Cb}:y∈eJ c v↔(∃s∈aI c.topo.ports,bl c s v=y)\/∃r∈bu c,r.act.set=y/\y≠Cb.zero:=by
 rw [eJ,oS,gX,vI]
 simp
theorem gK (p:Cb):∀(sets all:List Cb),∃m,cg p sets all=all++m
 |[],all=>⟨[],by rw [cg,uA]⟩
 |s::sets,all=>by
  rw [cg]
  obtain⟨m,hm⟩:=gK p sets (bif p.hits s then ew all (p.before s) else all)
  rw [hm]
  cases p.hits s
  ·exact⟨m,rfl⟩
  ·obtain⟨m',hm'⟩:=tE (l:=all) (x:=p.before s)
   exact⟨m'++m,by rw [cond_true,hm',uK]⟩
theorem l6 (p:Cb):∀(sets all:List Cb),∀s∈sets,p.hits s=true->p.before s∈cg p sets all
 |s::sets,all,t,ht,hh=>by
  rw [cg]
  rcases vA.1 ht with rfl|ht
  ·rw [hh,cond_true]
   obtain⟨m,hm⟩:=gK p sets (ew all (p.before t))
   rw [hm]
   exact vS _ (kN.2 (Or.inr rfl))
  ·exact l6 p sets _ t ht hh
theorem iK (p:Cb):∀(sets all:List Cb),(∀x∈all,x.sound=true)->∀x∈cg p sets all,x.sound=true
 |[],all,h,x,hx=>h x hx
 |s::sets,all,h,x,hx=>by
  rw [cg] at hx
  refine iK p sets _ (fun y hy=>?_) x hx
  cases hh:p.hits s
  ·rw [hh,cond_false] at hy;exact h y hy
  ·rw [hh,cond_true,kN] at hy
   rcases hy with hy|rfl
   ·exact h y hy
   ·exact Cb.make_sound _ _
theorem yY {l m:List Cb}{i:Nat}(h:i<l.length):(l++m).getD i Cb.zero=l.getD i Cb.zero:=by
 rw [qM,qM,List.getElem?_append_left h]
theorem oV (sets:List Cb):∀ (f n:Nat) (all:List Cb),n + f = 501 -> n <= all.length -> (∀ x ∈ all,x.sound = true) -> (∀ i < n,∀ s ∈ sets,(all.getD i Cb.zero).hits s = true -> (all.getD i Cb.zero).before s ∈ all) ->
  (∀x∈cM sets f n all,x.sound=true)/\(∀x∈all,x∈cM sets f n all)/\((cM sets f n all).length<=500->∀x∈cM sets f n all,∀s∈sets,x.hits s=true->x.before s∈cM sets f n all)
 |0,n,all,hn,hl,hs,hc=>by
  rw [cM]
  exact⟨hs,fun x hx=>hx,fun h=>by omega⟩
 |f+1,n,all,hn,hl,hs,hc=>by
  rw [cM]
  by_cases h:n<all.length/\all.length<=500
  ·rw [qE h.1,qE h.2,uZ,cond_true]
   obtain⟨m,hm⟩:=gK (all.getD n Cb.zero) sets all
   have hin:=l6 (all.getD n Cb.zero) sets all
   have hso:=iK (all.getD n Cb.zero) sets all hs
   rw [hm] at hin hso ⊢
   obtain⟨g1,g2,g3⟩:=oV sets f (n+1) (all++m) (by omega) (by rw [qK];omega) hso fun i hi s hsi hh=>by
    rw [yY (by omega)] at hh ⊢
    by_cases e:i=n
    ·subst e;exact hin s hsi hh
    ·exact vS _ (hc i (by omega) s hsi hh)
   exact⟨g1,fun x hx=>g2 x (vS _ hx),g3⟩
  ·rw [<- Bool.decide_and,qC h,cond_false]
   refine⟨hs,fun x hx=>hx,fun hle x hx s hsi hh=>?_⟩
   obtain⟨i,hi⟩:=List.mem_iff_getElem?.1 hx
   have hil:=(qD.1 hi).1
   have:=hc i (by omega) s hsi
   rw [qM,hi] at this
   exact this hh
theorem mj {n m:Nat}{ports:List Pt}:∀{l:List Rl},fb n m ports l=true->∀r∈l,r.sound n ports=true/\r.act.table<(m:Nat)
 |r::l,h,q,hq=>by
  rw [fb] at h
  cases hb:(r.sound n ports && decide (r.act.table<(m:Nat)))
  ·rw [hb] at h;cases h
  ·rw [hb,cond_true] at h
   rw [qQ,vM] at hb
   rcases vA.1 hq with rfl|hq
   ·exact hb
   ·exact mj h q hq
theorem kz {m:Nat}{ports:List Pt}:∀{t:List (List Rl)} {n:Nat},dv m ports n t=true->∀(i:Nat) (l:List Rl),t[i]?=some l->fb (n+i) m ports l=true
 |l::t,n,h,i,q,hq=>by
  rw [dv] at h
  cases hb:fb n m ports l
  ·rw [hb] at h;cases h
  ·rw [hb,cond_true] at h
   cases i with
   |zero=>rw [List.getElem?_cons_zero] at hq;rw [<- qB hq];exact hb
   |succ i=>rw [show n+(i+1)=n+1+i by omega];exact kz h i q hq
theorem cY {t:List (List Rl)}{ports:List Pt}(h:bZ t ports=0):1<=t.length/\t.length<=3/\fw t 0<=96/\∀(i:Nat) (l:List Rl),t[i]?=some l->∀r∈l,r.sound i ports=true/\r.act.table<(t.length:Nat):=by
 rw [bZ] at h
 split at h
 ·cases h
 rename_i h1
 split at h
 ·cases h
 rename_i h2
 split at h
 ·rename_i h3
  refine⟨by omega,by omega,by omega,fun i l hl r hr=>?_⟩
  have:=mj (kz h3 i l hl) r hr
  rw [vN] at this
  exact this
 ·cases h
theorem pd {t:List (List Pt)}{n:Nat}:∀{r:List Pt} {a:Nat},kx t n a r=true->∀(i:Nat) (p:Pt),r[i]?=some p->cQ t n (a+i) p=true
 |q::r,a,h,i,p,hp=>by
  rw [kx] at h
  cases hb:cQ t n a q
  ·rw [hb] at h;cases h
  ·rw [hb,cond_true] at h
   cases i with
   |zero=>rw [List.getElem?_cons_zero] at hp;rw [<- qB hp];exact hb
   |succ i=>rw [show a+(i+1)=a+1+i by omega];exact pd h i p hp
theorem mY {t:List (List Pt)}:∀{l:List (List Pt)} {n:Nat},fR t n l=true->∀(i:Nat) (r:List Pt),l[i]?=some r->kx t (n+i) 0 r=true
 |q::l,n,h,i,r,hr=>by
  rw [fR] at h
  cases hb:kx t n 0 q
  ·rw [hb] at h;cases h
  ·rw [hb,cond_true] at h
   cases i with
   |zero=>rw [List.getElem?_cons_zero] at hr;rw [<- qB hr];exact hb
   |succ i=>rw [show n+(i+1)=n+1+i by omega];exact mY h i r hr
theorem mg:∀{l:List (List Pt)},eZ l=true->∀r∈l,r.length<=6
 |q::l,h,r,hr=>by
  rw [eZ] at h
  by_cases hq:q.length>6
  ·rw [qE hq] at h;cases h
  ·rw [qC hq,cond_false] at h
   rcases vA.1 hr with rfl|hr
   ·omega
   ·exact mg h r hr
theorem bX {t:List (List Pt)}(h:aY t=0):1<=t.length/\t.length<=6/\(∀r∈t,r.length<=6)/\∀(n:Nat) (r:List Pt),t[n]?=some r->∀(a:Nat) (p:Pt),r[a]?=some p->cQ t n a p=true:=by
 rw [aY] at h
 split at h
 ·cases h
 rename_i h1
 split at h
 ·rename_i h2
  split at h
  ·rename_i h3
   refine⟨by omega,by omega,mg h2,fun n r hr a p hp=>?_⟩
   have:=mY h3 n r hr
   rw [vN] at this
   have:=pd this a p hp
   rw [vN] at this
   exact this
  ·cases h
 ·cases h
theorem ki {ports:List (List Pt)}:∀{l:List (List (List Rl))} {n:Nat},dl ports n l=0->∀(i:Nat) (t:List (List Rl)),l[i]?=some t->bZ t (ports.getD (n+i) [])=0
 |q::l,n,h,i,t,ht=>by
  rw [dl] at h
  split at h
  ·rename_i h1
   cases i with
   |zero=>rw [List.getElem?_cons_zero] at ht;rw [<- qB ht];exact h1
   |succ i=>rw [show n+(i+1)=n+1+i by omega];exact ki h i t ht
  ·rename_i h1
   exact absurd h h1
structure Cf.Ok (c:Cf):Prop where
 topo:aY c.topo.ports=0
 sizes:dm c=true
 pol:ko c=true
 len:c.tables.length=c.topo.ports.length
 tabs:∀(n:Nat) (t:List (List Rl)),c.tables[n]?=some t->bZ t (c.topo.ports.getD n [])=0
theorem Cf.ok {c:Cf}(h:c.sound=0):c.Ok:=by
 rw [Cf.sound] at h
 split at h
 ·rename_i h1
  cases h2:dm c
  ·rw [h2] at h;cases h
  rw [h2,cond_true] at h
  cases h3:ko c
  ·rw [h3] at h;cases h
  rw [h3,cond_true] at h
  split at h
  ·rename_i h4
   refine⟨h1,h2,h3,h4,fun n t ht=>?_⟩
   have:=ki h n t ht
   rw [vN] at this
   exact this
  ·cases h
 ·rename_i h1
  exact absurd h h1
structure At (c:Cf)(n t:Nat):Prop where
 sw:n<c.tables.length
 tab:t<(c.tables.getD n []).length
theorem At.start {c:Cf}(hc:c.Ok){n:Nat}(h:n<c.topo.ports.length):At c n 0:=by
 have hn:n<c.tables.length:=by rw [hc.len];exact h
 refine⟨hn,?_⟩
 have:=(cY (hc.tabs n _ (qA hn))).1
 rw [qM,qA hn]
 exact this
theorem At.get {c:Cf}{n t:Nat}(h:At c n t):∃ts,c.tables[n]?=some ts/\ts[t]?=some (aX c n t):=by
 have h1:=h.tab
 rw [qM,qA h.sw] at h1
 refine⟨_,qA h.sw,?_⟩
 rw [aX,qM,qM,qA h.sw]
 have h1:t<(c.tables[n]'h.sw).length:=h1
 show (c.tables[n]'h.sw)[t]?=some (((c.tables[n]'h.sw)[t]?).getD [])
 rw [qA h1]
 rfl
theorem At.rule {c:Cf}(hc:c.Ok){n t:Nat}(h:At c n t){r:Rl}(hr:r∈aX c n t):r.sound t (c.topo.ports.getD n [])=true/\r.act.table<((c.tables.getD n []).length:Nat):=by
 obtain⟨ts,h1,h2⟩:=h.get
 have:=(cY (hc.tabs n ts h1)).2.2.2 t _ h2 r hr
 rw [qM (l:=c.tables),h1]
 exact this
theorem Rl.sound_does {r:Rl}{t:Int}{ports:List Pt}(h:r.sound t ports=true):r.mat.sound=true/\r.act.set.sound=true/\r.does t ports=true:=by
 rw [Rl.sound] at h
 simp only [qQ] at h
 exact⟨h.1.1.2,h.1.2,h.2⟩
theorem Rl.does_goto {r:Rl}{t:Int}{ports:List Pt}(h:r.does t ports=true)(hk:r.act.kind=4):t<r.act.table/\r.act.table<3:=by
 rw [Rl.does] at h
 simp only [hk] at h
 simp at h
 omega
theorem Rl.does_forward {r:Rl}{t:Int}{ports:List Pt}(h:r.does t ports=true)(hk:r.act.kind=3):0<=r.act.port/\r.act.port<ports.length/\(ports.getD r.act.port.toNat Pt.zero).kind=2:=by
 rw [Rl.does] at h
 simp only [hk] at h
 simp [Rl.portIs] at h
 exact⟨h.1.1.2,h.1.2,h.2⟩
theorem Rl.does_kind {r:Rl}{t:Int}{ports:List Pt}(h:r.does t ports=true):r.act.kind=1\/r.act.kind=2\/r.act.kind=3\/r.act.kind=4:=by
 rw [Rl.does] at h
 split at h
 ·rename_i h1;exact Or.inl h1
 split at h
 ·rename_i h1;exact Or.inr (Or.inl h1)
 split at h
 ·rename_i h1;exact Or.inr (Or.inr (Or.inl h1))
 split at h
 ·rename_i h1;exact Or.inr (Or.inr (Or.inr h1))
 cases h
theorem At.link {c:Cf}(hc:c.Ok){n t:Nat}(h:At c n t){r:Rl}(hr:r∈aX c n t)(hk:r.act.kind=3) :
  0<=(bf c.topo.ports ⟨n,r.act.port⟩).peer/\(bf c.topo.ports ⟨n,r.act.port⟩).peer<c.topo.ports.length/\(bf c.topo.ports ⟨n,r.act.port⟩).kind=2:=by
 obtain⟨h1,h2,h3⟩:=Rl.does_forward (Rl.sound_does (h.rule hc hr).1).2.2 hk
 have hn:n<c.topo.ports.length:=by rw [<- hc.len];exact h.sw
 have e1:(c.topo.ports.getD n [])=c.topo.ports[n]:=by rw [qM,qA hn];rfl
 have e2:bf c.topo.ports ⟨n,r.act.port⟩=(c.topo.ports.getD n []).getD r.act.port.toNat Pt.zero:=by rw [bf,vQ]
 rw [e2]
 rw [e1] at h2 h3 ⊢
 have hp:r.act.port.toNat<c.topo.ports[n].length:=by omega
 have e3:c.topo.ports[n].getD r.act.port.toNat Pt.zero=c.topo.ports[n][r.act.port.toNat]:=by rw [qM,qA hp];rfl
 have h4:=(bX hc.topo).2.2.2 n _ (qA hn) _ _ (qA hp)
 rw [e3] at h3 ⊢
 rw [cQ] at h4
 simp only [h3] at h4
 simp [fU] at h4
 exact⟨by omega,by omega,h3⟩
theorem At.forward {c:Cf}(hc:c.Ok){n t:Nat}(h:At c n t){r:Rl}(hr:r∈aX c n t)(hk:r.act.kind=3):At c (bf c.topo.ports ⟨n,r.act.port⟩).peer.toNat 0:=by
 obtain⟨h1,h2,_⟩:=h.link hc hr hk
 exact At.start hc (by omega)
theorem At.goto {c:Cf}(hc:c.Ok){n t:Nat}(h:At c n t){r:Rl}(hr:r∈aX c n t)(hk:r.act.kind=4):At c n r.act.table.toNat:=by
 obtain⟨h1,h2⟩:=h.rule hc hr
 obtain⟨h3,h4⟩:=Rl.does_goto (Rl.sound_does h1).2.2 hk
 exact⟨h.sw,by omega⟩
def rM (ps:List Cb)(h g:Hd):Prop:=∀p∈ps,p.has h=p.has g
theorem oI {h g:Hd}:∀{l:List Rl} {i:Nat} {b:Option (Nat × Int)},(∀r∈l,r.mat.has h=r.mat.has g)->gV h i l b=gV g i l b
 |[],_,_,_=>rfl
 |r::l,i,b,H=>by
  rw [gV,gV,H r vD]
  exact oI fun q hq=>H q (qZ _ hq)
theorem xQ {h:Hd}:∀{l:List Rl} {i:Nat} {b:Option (Nat × Int)} {x:Nat × Int},gV h i l b=some x->(b=some x)\/(i<=x.1/\x.1<i+l.length/\∃r,l[x.1-i]?=some r/\r.mat.has h=true)
 |[],i,b,x,H=>Or.inl H
 |r::l,i,b,x,H=>by
  rw [gV] at H
  rcases xQ H with e|⟨h1,h2,q,h3,h4⟩
  ·cases hb:(r.mat.has h && b.all fun q=>decide (q.2<r.prio))
   ·rw [hb,cond_false] at e;exact Or.inl e
   ·rw [hb,cond_true] at e
    rw [<- qB e]
    rw [qQ] at hb
    exact Or.inr ⟨qJ _,by rw [qS];show i<_;omega,r,by simp,hb.1⟩
  ·refine Or.inr ⟨by omega,by rw [qS];omega,q,?_,h4⟩
   rw [show x.1-i=(x.1-(i+1))+1 by omega,uS]
   exact h3
theorem lI {l:List Rl}{h:Hd}{r:Nat}(H:fnd l h=some r):r<l.length/\l.getD r Rl.zero∈l/\(l.getD r Rl.zero).mat.has h=true:=by
 rw [fnd] at H
 cases hf:gV h 0 l none with
 |none=>rw [hf] at H;cases H
 |some x=>
  rw [hf] at H
  have e:x.1=r:=qB H
  rcases xQ hf with h1|⟨_,h2,q,h3,h4⟩
  ·cases h1
  ·rw [e] at h2 h3
   rw [vN] at h2
   rw [Nat.sub_zero] at h3
   rw [qM,h3]
   exact⟨h2,qN h3,h4⟩
structure xK (c:Cf)(v:Int)(ps:List Cb):Prop where
 mats:∀r∈bu c,r.mat∈ps
 closed:∀p∈ps,∀s∈eJ c v,p.hits s=true->p.before s∈ps
theorem j5 {c:Cf}(hc:c.Ok)(v:Int):(∀p∈aL c v,p.sound=true)/\((aL c v).length<=500->xK c v (aL c v)):=by
 have hm:∀r∈bu c,r.mat.sound=true:=by
  intro r hr
  obtain⟨l,hl,hr⟩:=uP.1 hr
  obtain⟨t,ht,hl⟩:=uP.1 hl
  obtain⟨n,hn⟩:=List.mem_iff_getElem?.1 ht
  obtain⟨i,hi⟩:=List.mem_iff_getElem?.1 hl
  exact (Rl.sound_does ((cY (hc.tabs n t hn)).2.2.2 i l hi r hr).1).1
 obtain⟨g1,g2,g3⟩:=oV (eJ c v) 501 0 (cS [] ((bu c).map Rl.mat)) rfl (qR _) (fun x hx=>by
  rw [gX,vI] at hx
  rcases hx with hx|⟨r,hr,rfl⟩
  ·cases hx
  ·exact hm r hr) fun i hi=>absurd hi (uO i)
 refine⟨g1,fun hl=>⟨fun r hr=>g2 _ ?_,g3 hl⟩⟩
 rw [gX,vI]
 exact Or.inr ⟨r,hr,rfl⟩
theorem rM.set {c:Cf}{v:Int}{ps:List Cb}(hA:xK c v ps){h g:Hd}(H:rM ps h g){s:Cb}(hs:s∈eJ c v\/s=Cb.zero):rM ps (h.set s) (g.set s):=by
 rcases hs with hs|rfl
 ·intro p hp
  rw [Cb.has_set,Cb.has_set]
  cases hh:p.hits s
  ·rfl
  ·rw [H _ (hA.closed p hp s hs hh)]
 ·rw [Hd.set_zero,Hd.set_zero];exact H
def fl (x:Hop):Int × Int × Int:=(x.sw,x.table,x.rule)
structure Run.Alike (x y:Run):Prop where
 fin:x.fin=y.fin
 at_:x.at_=y.at_
 hops:x.hops.map fl=y.hops.map fl
theorem lu {c:Cf}(hc:c.Ok){v:Int}{ps:List Cb}(hA:xK c v ps):∀(f:Nat) (n t:Nat) (h g:Hd) (xs ys:List Hop),At c n t->rM ps h g->xs.map fl=ys.map fl->(goF c f n t h xs).Alike (goF c f n t g ys)
 |0,n,t,h,g,xs,ys,hat,hl,he=>⟨rfl,rfl,he⟩
 |f+1,n,t,h,g,xs,ys,hat,hl,he=>by
  obtain⟨ts,ht1,ht2⟩:=hat.get
  have hin:∀r∈aX c n t,r∈bu c:=fun r hr=>uP.2 ⟨_,uP.2 ⟨ts,qN ht1,qN ht2⟩,hr⟩
  have hf:fnd (aX c n t) h=fnd (aX c n t) g:=by
   rw [fnd,fnd,oI fun r hr=>hl _ (hA.mats r (hin r hr))]
  rw [goF,goF,hf]
  cases hq:fnd (aX c n t) g with
  |none=>exact⟨rfl,rfl,by simp [he,fl]⟩
  |some r=>
   obtain⟨_,hr,_⟩:=lI hq
   have hap:(xs++[(⟨n,t,r,h⟩:Hop)]).map fl=(ys++[(⟨n,t,r,g⟩:Hop)]).map fl:=by simp [he,fl]
   dsimp only
   revert hr
   generalize (aX c n t).getD r Rl.zero=q
   intro hr
   have hs:rM ps (h.set q.act.set) (g.set q.act.set):=hl.set hA (by
    by_cases e:q.act.set=Cb.zero
    ·exact Or.inr e
    ·exact Or.inl (oo.2 (Or.inr ⟨q,hin q hr,rfl,e⟩)))
   by_cases k4:q.act.kind=4
   ·rw [if_pos k4,if_pos k4]
    exact lu hc hA f _ _ _ _ _ _ (hat.goto hc hr k4) hs hap
   rw [if_neg k4,if_neg k4]
   by_cases k3:q.act.kind=3
   ·rw [if_pos k3,if_pos k3]
    exact lu hc hA f _ _ _ _ _ _ (hat.forward hc hr k3) hs hap
   rw [if_neg k3,if_neg k3]
   by_cases k2:q.act.kind=2
   ·rw [if_pos k2,if_pos k2]
    exact⟨rfl,rfl,hap⟩
   rw [if_neg k2,if_neg k2]
   exact⟨rfl,rfl,hap⟩
theorem Run.Alike.pass {x y:Run}(H:x.Alike y)(n:Int):gJ x n=gJ y n:=by
 have e:∀r:Run,gJ r n=(r.hops.map fl).any fun k=>decide (k.1=n):=fun r=>by rw [gJ,List.any_map];rfl
 rw [e,e,H.hops]
theorem Run.Alike.wrong {x y:Run}(H:x.Alike y)(c:Cf)(s:Sp):cv c s x=cv c s y:=by
 rw [cv,cv,H.fin,H.at_]
 simp only [H.pass]
theorem dO {t:List (List Pt)}{s:Sp}:s∈aI t↔∃(n:Nat) (r:List Pt) (a:Nat) (p:Pt),t[n]?=some r/\r[a]?=some p/\p.kind=1/\s=⟨n,a⟩:=by
 rw [aI,db]
 constructor
 ·rintro⟨n,r,hr,h⟩
  rw [eY,db] at h
  obtain⟨a,p,hp,h⟩:=h
  rw [vN,vN,km] at h
  by_cases hk:p.kind=1
  ·rw [qE hk,cond_true] at h
   exact⟨n,r,a,p,hr,hp,hk,qP.1 h⟩
  ·rw [qC hk] at h;cases h
 ·rintro⟨n,r,a,p,hr,hp,hk,rfl⟩
  refine⟨n,r,hr,?_⟩
  rw [eY,db]
  refine⟨a,p,hp,?_⟩
  rw [vN,vN,km,qE hk]
  exact qP.2 rfl
theorem fo {t:List (List Pt)}(ht:aY t=0){s:Sp}:0<=aZ t s↔s∈aI t:=by
 rw [dO]
 constructor
 ·intro h
  rw [aZ] at h
  cases hb:(cK t s && decide ((bf t s).kind=1))
  ·rw [hb] at h;simp at h
  ·simp only [cK,qQ,vM] at hb
   obtain⟨⟨h1,h2,h3,h4⟩,h5⟩:=hb
   obtain⟨sw,port⟩:=s
   obtain⟨n,rfl⟩:=Int.eq_ofNat_of_zero_le h1
   obtain⟨a,rfl⟩:=Int.eq_ofNat_of_zero_le h3
   simp only [bf,vQ] at h4 h5
   have h2:((n:Nat):Int)<t.length:=h2
   have hn:n<t.length:=by omega
   have e1:t.getD n []=t[n]:=by rw [qM,qA hn];rfl
   rw [e1] at h4 h5
   have ha:a<t[n].length:=by omega
   have e2:t[n].getD a Pt.zero=t[n][a]:=by rw [qM,qA ha];rfl
   rw [e2] at h5
   exact⟨n,_,a,_,qA hn,qA ha,h5,rfl⟩
 ·rintro⟨n,r,a,p,hr,hp,hk,rfl⟩
  have hok:=(bX ht).2.2.2 n r hr a p hp
  have e1:t.getD n []=r:=by rw [qM,hr];rfl
  have e2:r.getD a Pt.zero=p:=by rw [qM,hp];rfl
  have hn:=(qD.1 hr).1
  have ha:=(qD.1 hp).1
  rw [cQ] at hok
  simp only [hk] at hok
  simp at hok
  simp only [aZ,cK,bf,vQ,e1,e2,hk]
  rw [qE (by omega),qE (by omega),qE (by omega),qE (by omega)]
  exact hok.2.1
theorem uu {t:List (List Pt)}(ht:aY t=0){s:Sp}(h:s∉aI t):aZ t s = -1:=by
 have h1:¬0<=aZ t s:=fun h'=>h ((fo ht).1 h')
 have h2:=h
 rw [dO] at h2
 rw [aZ] at h1 ⊢
 cases hb:(cK t s && decide ((bf t s).kind=1))
 ·rfl
 ·exfalso
  simp only [cK,qQ,vM] at hb
  obtain⟨⟨h1,h2',h3,h4⟩,h5⟩:=hb
  obtain⟨sw,port⟩:=s
  obtain⟨n,rfl⟩:=Int.eq_ofNat_of_zero_le h1
  obtain⟨a,rfl⟩:=Int.eq_ofNat_of_zero_le h3
  simp only [bf,vQ] at h4 h5
  have h2':((n:Nat):Int)<t.length:=h2'
  have hn:n<t.length:=by omega
  have e1:t.getD n []=t[n]:=by rw [qM,qA hn];rfl
  rw [e1] at h4 h5
  have ha:a<t[n].length:=by omega
  have e2:t[n].getD a Pt.zero=t[n][a]:=by rw [qM,qA ha];rfl
  rw [e2] at h5
  exact h2 ⟨n,_,a,_,qA hn,qA ha,h5,rfl⟩
theorem lS {c:Cf}(hc:c.Ok){v:Int}{ps:List Cb}(hA:xK c v ps){s:Sp}(hs:s∈aI c.topo.ports){h g:Hd}(H:rM ps h g)(most:Nat):(bD c s h v most).Alike (bD c s g v most):=by
 rw [bD,bD]
 obtain⟨n,r,a,p,hr,hp,hk,rfl⟩:=dO.1 hs
 refine lu hc hA most _ _ _ _ _ _ (At.start hc ?_) (H.set hA (Or.inl (oo.2 (Or.inl ⟨_,hs,rfl⟩)))) rfl
 exact (qD.1 hr).1
end Go.Proofs.YtdidjpohnopihaaGreat.Sm
end
