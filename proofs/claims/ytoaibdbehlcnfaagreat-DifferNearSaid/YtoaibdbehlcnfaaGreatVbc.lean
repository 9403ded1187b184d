/- Contracts of the program's functions over data, and the plain laws that they meet (part 3). No condition. -/
import Derived.Test.YtoaibdbehlcnfaaGreatVbb
import Derived.WalkKit
import Derived.WalkSpells
import Derived.WalkLawsBesides
import Derived.Lib.Hide
import Derived.Deep.RegionHeld3
import Derived.Maps.AppendAt
import Derived.KernelRfl
import Derived.Lib.AppendStr
import Derived.Orders
import Derived.LoopTactic
import Derived.Laws.CopyRow
import Derived.Laws.Cells
import Derived.Great.BuildSlice
import Derived.Laws.ResultCell
import Derived.Laws.StructEq
import Derived.Laws.MakeOwn
import Derived.Lib.AppendZerosOnto
import Derived.Deep.Slices
import Derived.Deep.Fields
import Derived.ChangeSame
import Derived.ProofKit
import Derived.OpenShut
import Derived.SizedLaws
import Derived.Test.YtoaibdbehlcnfaaGreatProg
import Derived.Shelf.Spec.BitsCarry
set_option linter.unusedVariables false
set_option linter.unusedSimpArgs false
set_option maxRecDepth 100000
set_option maxHeartbeats 4000000
section
namespace Go.Proofs.YtoaibdbehlcnfaaGreat.Sm
open Go.RowKit
theorem nest_form {W:World} {F:Nat->Prop} {μ:Mu} {σ:Sto} (hi:Inv W F μ σ) {id ep off n t:Nat} {els:List AV} {v:Value} (h:Rel W F μ σ (.row id ep off n) v) (hid:σ id=⟨ep,some (.nest t els)⟩) :
  off+n<=els.length/\((v = .slice none 0 0/\els=[]/\μ id=none)\/∃b cap,μ id=some (b,cap)/\v = .slice (some ⟨b,off*1,none⟩) n (cap - off)/\els.length<=cap/\cap<=maxLen):=by
 obtain ⟨_,_,hv⟩:=Rel.rowN h
 obtain ⟨h1,h2⟩:=hv _ _ hid
 refine ⟨h1,?_⟩
 rcases hi.body _ _ _ hid with ⟨hn,rfl⟩ | ⟨b,cap,cur,hp,hh,q1,q2,_⟩
 ·rw [hn] at h2
  exact .inl ⟨h2,rfl,hn⟩
 ·rw [hp] at h2
  exact .inr ⟨b,cap,hp,h2,q1,q2⟩
structure NestC (W:World) (F:Nat->Prop) (μ:Mu) (σ:Sto) (els:List AV) (cells:List Value):Prop where
 n:cells.length=els.length
 r:∀(k:Nat) (x:AV),els[k]?=some x->x.one=true/\∃u,cells[k]?=some u/\Rel W F μ σ x u
theorem NestC.stp {W W':World} {F F':Nat->Prop} {μ μ':Mu} {σ σ':Sto} (hi:Inv W F μ σ) (hs:Stp W F μ σ W' F' μ' σ') {els:List AV} {cells:List Value} (h:NestC W F μ σ els cells):NestC W' F' μ' σ' els cells :=
 ⟨h.n,fun k x hx=>by obtain ⟨r1,u,r2,r3⟩:=h.r k x hx;exact ⟨r1,u,r2,r3.stp hi hs⟩⟩
theorem NestC.one {W:World} {F:Nat->Prop} {μ:Mu} {σ:Sto} {els:List AV} {cells:List Value} (h:NestC W F μ σ els cells) {k:Nat} {u:Value} (hu:cells[k]?=some u):u.oneCell'=true:=by
 have hk:k<els.length:=by rw [<- h.n];exact (List.getElem?_eq_some_iff.1 hu).1
 obtain ⟨r1,u',r2,r3⟩:=h.r k _ (List.getElem?_eq_getElem hk)
 obtain rfl:=Option.some.inj (hu.symm.trans r2)
 exact r3.one r1
theorem NestC.raw {W:World} {F:Nat->Prop} {μ:Mu} {σ:Sto} {els:List AV} {cells:List Value} (h:NestC W F μ σ els cells):RowC W F 1 (cells.map fun u=>[AV.raw u]) cells:=by
 refine ⟨fun k cs hk=>?_,by simp,fun k cs j x hk hj=>?_⟩
 ·rw [List.getElem?_map] at hk
  obtain ⟨u,_,rfl⟩:=Option.map_eq_some_iff.1 hk
  rfl
 ·rw [List.getElem?_map] at hk
  obtain ⟨u,hu,rfl⟩:=Option.map_eq_some_iff.1 hk
  have hj0:j=0:=by have:=(List.getElem?_eq_some_iff.1 hj).1;simp at this;omega
  subst hj0
  obtain rfl:AV.raw u=x:=by simpa using hj
  exact ⟨h.one hu,u,by rw [Nat.mul_one,Nat.add_zero];exact hu,.raw u⟩
theorem nest_owns {W : World} {F : Nat -> Prop} {μ : Mu} {σ : Sto} (hi : Inv W F μ σ) {id ep t : Nat} {els : List AV} (hid : σ id = ⟨ep, some (.nest t els)⟩) {v : Value} (hv : Rel W F μ σ (.row id ep 0 els.length) v) :
    ∃cells,W.ownsRow 0 t 1 v els.length cells/\NestC W F μ σ els cells/\∀g,v.ownBlock=some g->∃c,μ id=some (g,c):=by
  obtain ⟨_,⟨rfl,rfl,_⟩ | ⟨b,cap,hm,rfl,q1,q2⟩⟩:=nest_form hi hv hid
  · exact ⟨[],World.ownsRow_nil W 0 t 1,⟨rfl,fun k x h=>by simp at h⟩,fun g h=>by simp [Value.ownBlock] at h⟩
  · rcases hi.body _ _ _ hid with ⟨hn,_⟩ | ⟨b',cap',cur,hp,hh,r1,r2,r3,r5⟩
    · rw [hn] at hm;cases hm
    · obtain ⟨rfl,rfl⟩:b=b'/\cap=cap':=by rw [hm] at hp;simpa using hp
      refine ⟨cur.toList.take (els.length*1),⟨by simp;omega,.inr ⟨b,cap,cur,by simp,Nat.zero_le _,hh,r1,r2,by omega,rfl⟩⟩,⟨by simp;omega,fun k x hk=>?_⟩,fun g h=>⟨cap,by rw [hm];simp [Value.ownBlock] at h;rw [h]⟩⟩
      obtain ⟨s1,u,s2,s3⟩:=r5 k x hk
      refine ⟨s1,u,?_,s3⟩
      have hlt:k<els.length:=(List.getElem?_eq_some_iff.1 hk).1
      rw [List.getElem?_take,if_pos (by omega)]
      simpa using s2
theorem NestC.body {W:World} {F:Nat->Prop} {μ:Mu} {σ:Sto} {t b cap:Nat} {els:List AV} {cells:List Value} {cur:Array Value} (h:NestC W F μ σ els cells) (hh:W.heap[b]?=some (.cells cur t (0,0))) (h1:els.length<=cap) (h2:cap<=maxLen) (h3:cur.size=cap)
  (h4:cur.toList.take els.length=cells):BodyRel W F μ σ (some (b,cap)) (.nest t els):=by
 refine .inr ⟨b,cap,cur,rfl,hh,h1,h2,h3,fun k x hk=>?_⟩
 obtain ⟨r1,u,r2,r3⟩:=h.r k x hk
 refine ⟨r1,u,?_,r3⟩
 rw [<- h4,List.getElem?_take] at r2
 split at r2
 ·simpa using r2
 ·cases r2
section
variable {P : Program} {N : Nat} {o : Oper} {s : St}
theorem op_appN {c : Call} {x y : Operand} {t e ty id idy epy : Nat} {ti ei : TI} {els : List AV} {z : AV} (ho : o.op = .call c) (hc : c.callee = .builtin .append) (ha : c.args = #[x, y]) (hat : c.argTypes = #[t, t]) (ht : TiOk P t ti) (hk : ti.k = .slice e) (he : TiOk P e ei) (h1n : ei.n = 1)
    (hx:∃ep,s.ev x = .row id ep 0 els.length/\s.σ id=⟨ep,some (.nest e els)⟩) (hy:s.ev y = .ref idy epy (.sl 0 1 1)) (hidy:s.σ idy=⟨epy,some (.box ty [z])⟩)
    (hb:(els.length+1)*ei.sz<=140737488355328) (h63:els.length+1<=9223372036854775807) :
    OpLoc P N o s ⟨.row id ((s.σ id).ep+1) 0 (els.length+1),[(id,⟨(s.σ id).ep+1,some (.nest e (els++[z]))⟩)],[idy]⟩:=by
  intro s' g1 g2 g3 W F μ a hr K Q hK
  have hid:s'.σ id=s.σ id:=g3 (id,⟨(s.σ id).ep+1,some (.nest e (els++[z]))⟩) (by simp)
  have hdy:s'.σ idy=s.σ idy:=g2 idy (by simp)
  have opers:o.op.operands.toList=[x,y]:=by rw [ho];simp [Op.operands,Call.operands,hc,ha]
  have ex:=hr.ev x
  rw [g1 x (by rw [opers];simp)] at ex
  have ey:=hr.ev y
  rw [g1 y (by rw [opers];simp),hy] at ey
  have hz:∃by' u,a.eval y = .slice (some ⟨by',0,none⟩) 1 1/\W.cell? ⟨by',0,none⟩=some u/\z.one=true/\Rel W F μ s'.σ z u:=by
    cases ey with
    | pure h=>cases h
    | ref _ _ _ _ _ _ hv =>
      obtain ⟨b,cc,hm,e1⟩:=hv _ (hdy.trans hidy)
      obtain ⟨b',c',vs,hp,hh,hl,hvs⟩:=hr.inv.body _ _ _ (hdy.trans hidy)
      obtain ⟨rfl,_⟩:b=b'/\cc=c':=by rw [hm] at hp;simpa using hp
      match vs,hl with
      | [u],_ =>
        obtain ⟨k1,k2⟩:=hvs 0 z u rfl rfl
        exact ⟨b,u,e1,by simp [World.cell?,hh],k1,k2⟩
  obtain ⟨by',u,ey',hcu,hz1,hzu⟩:=hz
  obtain ⟨ep,hx1,hx2⟩:=hx
  rw [hx1] at ex
  obtain ⟨cells,h1,h2,h3⟩:=nest_owns hr.inv (hid.trans hx2) ex
  have hsrc:Src W F ei.n [[AV.raw u]] (a.eval y):=by
    refine ⟨some ⟨by',0,none⟩,1,[u],ey',?_,.inl ⟨_,rfl,fun j w hj=>?_⟩⟩
    · rw [h1n]
      exact ⟨fun k cs hk => by
          have hk0:k=0:=by have:=(List.getElem?_eq_some_iff.1 hk).1;simp at this;omega
          subst hk0
          obtain rfl:[AV.raw u]=cs:=by simpa using hk
          rfl,rfl,fun k cs j w hk hj=>by
          have hk0:k=0:=by have:=(List.getElem?_eq_some_iff.1 hk).1;simp at this;omega
          subst hk0
          obtain rfl:[AV.raw u]=cs:=by simpa using hk
          have hj0:j=0:=by have:=(List.getElem?_eq_some_iff.1 hj).1;simp at this;omega
          subst hj0
          obtain rfl:AV.raw u=w:=by simpa using hj
          exact ⟨hzu.one hz1,u,rfl,.raw u⟩⟩
    · have hj0:j=0:=by have:=(List.getElem?_eq_some_iff.1 hj).1;simp at this;omega
      subst hj0
      obtain rfl:u=w:=by simpa using hj
      exact hcu
  have hraw:=h2.raw
  rw [<- h1n] at hraw
  have h1':W.ownsRow 0 e ei.n (a.eval x) (cells.map fun u=>[AV.raw u]).length cells:=by rw [h1n,List.length_map,h2.n];exact h1
  obtain ⟨v',W',cells',hrun,ho',⟨news,rfl,hnews⟩,hg,hatb⟩:=append_run (P:=P) (ty:=o.type) (n:=0) ht hk he (by omega) h1' hraw hsrc (by rw [List.length_map,h2.n];exact hb) (by rw [List.length_map,h2.n];exact h63)
  have hlen:(cells.map fun u=>[AV.raw u]).length=els.length:=by rw [List.length_map,h2.n]
  have hnu:news=[u]:=by
    have hn:=hnews.n
    rw [h1n] at hn
    match news,hn with
    | [w],_ =>
      obtain ⟨_,w',e1,e2⟩:=hnews.r 0 [.raw u] 0 (.raw u) rfl rfl
      have e3:w=w':=by simpa using e1
      cases e2
      rw [e3]
  subst hnu
  have hk':Kp (fun b=>(s'.σ id).body.isSome=true/\∃c,μ id=some (b,c)) W W':=(Kp.refl _ W).grown hg fun k hk=>.inl ⟨by rw [hid,hx2];rfl,h3 k hk⟩
  have hsnoc:∀{W F μ σ},NestC W F μ σ els cells->Rel W F μ σ z u->NestC W F μ σ (els++[z]) (cells++[u]):=fun q1 q2=>by
    refine ⟨by simp [q1.n],fun k w hk=>?_⟩
    rw [List.getElem?_append] at hk
    split at hk
    · rename_i hlt
      obtain ⟨r1,u',r2,r3⟩:=q1.r k w hk
      exact ⟨r1,u',by rw [List.getElem?_append_left (List.getElem?_eq_some_iff.1 r2).1];exact r2,r3⟩
    · rename_i hge
      have hk0:k - els.length=0:=by have:=(List.getElem?_eq_some_iff.1 hk).1;simp at this;omega
      rw [hk0] at hk
      obtain rfl:z=w:=by simpa using hk
      have hkl:k=cells.length:=by rw [q1.n];omega
      exact ⟨hz1,u,by rw [hkl];simp,q2⟩
  have hp : ∃ p' : Option (Nat × Nat), (∀ b c, p' = some (b, c) -> b < W'.heap.size /\ (W.heap.size <= b \/ ((s'.σ id).body.isSome = true /\ ∃ c', μ id = some (b, c')))) /\
      (∀F μ' σ',NestC W' F μ' σ' (els++[z]) (cells++[u])->BodyRel W' F μ' σ' p' (.nest e (els++[z])))/\RowV p' 1 0 (els.length+1) (els.length+1) v'/\v'.oneCell'=true:=by
    rcases ho'.2 with ⟨rfl,hz0⟩ | ⟨g,cap,cur,rfl,_,hh,r1,r2,r3,r4⟩
    · simp at hz0
    · rw [List.length_append,hlen] at r1 r4
      refine ⟨some (g,cap),fun b c h=>?_,fun F μ' σ' hc=>hc.body hh (by simpa using r1) r2 (by rw [r3,h1n,Nat.mul_one]) (by rw [<- r4,h1n];simp),⟨by omega,by simp [hlen]⟩,rfl⟩
      obtain ⟨rfl,rfl⟩:g=b/\cap=c:=by simpa using h
      refine ⟨(Array.getElem?_eq_some_iff.1 hh).1,?_⟩
      rcases hatb with h | h
      · exact .inr ⟨by rw [hid,hx2];rfl,h3 g (by rw [<- h];rfl)⟩
      · have:W.heap.size=g:=by simp [Value.ownBlock] at h;exact h.symm
        exact .inl (by omega)
  obtain ⟨p',p1,p2,p3,p4⟩:=hp
  obtain ⟨hs,hi⟩:=inv_turn hr.inv id p' ((s.σ id).ep+1) (.nest e (els++[z])) hk' p1 (.inl (by rw [hid];omega)) (fun hs=>p2 _ _ _ (hsnoc (h2.stp hr.inv hs) (hzu.stp hr.inv hs)))
  unfold Oper.wp
  have hrun':(execOp a.eval o).run P W = .ok (.value v') W':=by
    simp only [execOp,ho,resolve,hc,ha,hat,List.map_toArray,List.map_cons,List.map_nil,Sem.run_bind,Sem.run_pure,Result.andThen_ok,invoke,builtin,hrun]
  rw [hrun']
  refine hK W' F (upm μ id p') _ (hr.put hs hi (.row id _ 0 _ _ ?_ p4 fun bd' m' l' hbd hL=>?_)) hs
  · rw [up1_eq,if_pos rfl]
    exact Nat.le_refl _
  · rw [up1_eq,if_pos rfl] at hbd
    obtain rfl:Body.nest e (els++[z])=bd':=by simpa using hbd
    obtain ⟨rfl,rfl⟩:1=m'/\(els++[z]).length=l':=by simpa only [Body.rowL,Option.some.injEq,Prod.mk.injEq] using hL
    rw [upm_eq,if_pos rfl]
    simpa using p3
theorem op_lenE {c:Call} {x:Operand} {t e id ep off n ty:Nat} {els:List AV} {ti:TI} (ho:o.op = .call c) (hc:c.callee = .builtin .len) (ha:c.args = #[x]) (hat:c.argTypes = #[t]) (ht:TiOk P t ti) (hk:ti.k = .slice e) (hx:s.ev x = .row id ep off n) (hid:s.σ id=⟨ep,some (.nest ty els)⟩):OpLoc P N o s ⟨.i .i64 n,[],[id]⟩ :=
  op_lenX ho hc ha hat ht hk [id] fun s' W F μ v hσ hi hv=>by
    rw [hx] at hv
    obtain ⟨h1,⟨rfl,rfl,_⟩ | ⟨b,cap,_,e,_⟩⟩:=nest_form hi hv ((hσ id (by simp)).trans hid)
    · obtain rfl:n=0:=by simp at h1;omega
      exact ⟨_,_,rfl⟩
    · exact ⟨_,_,e⟩
theorem op_ixE {t e k id ep n ty : Nat} {ti ei : TI} {x i : Operand} {kd : IntKind} {els : List AV} (ho : o.op = .indexAddr t x i) (ht : TiOk P t ti) (hk : ti.k = .slice e) (he : TiOk P e ei) (hx : s.ev x = .row id ep 0 n) (hid : s.σ id = ⟨ep, some (.nest ty els)⟩) (hi : s.ev i = .i kd (k : Int)) (hlt : k < n)
    (hn:ei.n=1):OpLoc P N o s ⟨.el id ep k 0,[],[id]⟩:=by
  refine oploc_val [id] _ fun s' W F μ a h1 h2 hs=>?_
  have hid':=(h2 id (by simp)).trans hid
  have ex:=hs.ev x
  rw [h1 x (by rw [ho];simp [Op.operands]),hx] at ex
  have ei':=hs.ev i
  rw [h1 i (by rw [ho];simp [Op.operands]),hi] at ei'
  obtain ⟨q1,⟨_,rfl,_⟩ | ⟨b,cap,hm,hv,_⟩⟩:=nest_form hs.inv ex hid'
  · simp at q1;omega
  · have hcond:(0:Int)<=(k:Int)/\(k:Int)<(n:Int):=by omega
    refine ⟨.pointer (some ⟨b,0*1+k*ei.n,none⟩),?_,.el id ep k 0 _ (by rw [hid'];exact Nat.le_refl _) rfl fun bd' m' l' hbd hL=>⟨b,cap,hm,?_⟩⟩
    · simp only [execOp,ho,Instr.indexAt,hv,ei'.i',asIntOf,Sem.run_bind,Sem.run_pure,Result.andThen_ok,run_underlying (ht.slice hk),if_pos hcond,he.size,Int.toNat_natCast,ca_ptr (W:=W)]
    · rw [hid'] at hbd
      obtain rfl:Body.nest ty els=bd':=by simpa using hbd
      obtain ⟨rfl,_⟩:1=m'/\els.length=l':=by simpa [Body.rowL] using hL
      rw [hn];simp
theorem op_ldE {t id ep k ty:Nat} {ti:TI} {p:Operand} {els:List AV} {x:AV} (ho:o.op = .load t p) (ht:TiOk P t ti) (hag:ti.k.ag=false) (hp:s.ev p = .el id ep k 0) (hid:s.σ id=⟨ep,some (.nest ty els)⟩) (hx:els[k]?=some x):OpLoc P N o s ⟨x,[],[id]⟩:=by
  refine oploc_val [id] _ fun s' W F μ a h1 h2 hs=>?_
  have hid':=(h2 id (by simp)).trans hid
  have ep':=hs.ev p
  rw [h1 p (by rw [ho];simp [Op.operands]),hp] at ep'
  obtain ⟨_,_,hv⟩:=Rel.elN ep'
  obtain ⟨b,c,hm,hv⟩:=hv _ _ hid'
  rcases hs.inv.body _ _ _ hid' with ⟨hn,rfl⟩ | ⟨b',cap,cur,hp',hh,q1,q2,q3,q4⟩
  · simp at hx
  · obtain ⟨rfl,rfl⟩:b=b'/\c=cap:=by rw [hm] at hp';simpa using hp'
    obtain ⟨_,u,hu,hr⟩:=q4 k x hx
    refine ⟨u,?_,hr⟩
    have hrun:(load ⟨b,k*1+0,none⟩).run P W = .ok u W:=by simp [load,Sem.run,World.cell?,hh,hu]
    simp only [execOp,ho,hv,Instr.loadAt,Instr.sureAddr,loadVar,Sem.run_bind,Sem.run_pure,Result.andThen_ok,ht.agg,hag,Bool.false_eq_true,if_false,hrun]
end
end Go.Proofs.YtoaibdbehlcnfaaGreat.Sm
end
section
namespace Go.Proofs.YtoaibdbehlcnfaaGreat.Sm
open Go.RowKit
def Rt (N:Nat) (s:St) {ι:Type} (st:ι->St) (J:ι->Prop):Prop :=
 ∀W F μ a,RS N W F μ s a->∃F' μ' i,J i/\RS N W F' μ' (st i) a/\Stq W F μ s.σ W F' μ' (st i).σ
section
variable {P : Program} {N : Nat} {Q : Exit -> St -> Prop} {s : St} {c : Code} {ι : Type}
theorem AW.retell (st:ι->St) (J:ι->Prop) (h:Rt N s st J) (h':∀i,J i->AW P N c Q (st i)):AW P N c Q s:=by
 intro W F μ a hr
 obtain ⟨F',μ',i,hJ,hr',hs⟩:=h W F μ a hr
 refine Code.wp_mono ?_ (h' i hJ W F' μ' a hr')
 rintro e a' W' ⟨F'',μ'',s'',hq,hr'',hs''⟩
 exact ⟨F'',μ'',s'',hq,hr'',hs.trans hs''⟩
theorem Rt.wk {st:ι->St} {J:ι->Prop} (i:ι) (hJ:J i) (h:Wk s (st i)):Rt N s st J:=fun W F μ a hr=>⟨F,μ,i,hJ,h.rs hr,h.stp W F μ⟩
theorem Rt.trans {κ:Type} {s1:κ->St} {K:κ->Prop} {st:ι->St} {J:ι->Prop} (h:Rt N s s1 K) (h':∀k,K k->Rt N (s1 k) st J):Rt N s st J:=by
 intro W F μ a hr
 obtain ⟨F',μ',k,hK,hr',hs⟩:=h W F μ a hr
 obtain ⟨F'',μ'',i,hJ,hr'',hs'⟩:=h' k hK W F' μ' a hr'
 exact ⟨F'',μ'',i,hJ,hr'',hs.trans hs'⟩
open Classical in
theorem AW.loopR (st:ι->St) (J:ι->Prop) (m:ι->Nat) (h0:Rt N s st J)
  (round:∀i,J i->AW P N c (thenA (fun s'=>Rt N s' st fun i'=>J i'/\m i'<m i) Q) (st i)):AW P N (.loop c) Q s:=by
 intro W F μ a hr
 let R:Nat->Act->World->Prop:=fun n a' W'=>∃F' μ' i,m i=n/\J i/\RS N W' F' μ' (st i) a'/\Stq W F μ s.σ W' F' μ' (st i).σ
 obtain ⟨F0,μ0,i0,hJ0,hr0,hs0⟩:=h0 W F μ a hr
 refine wp_loop (fun a' W'=>∃n,R n a' W') (fun a' W'=>if h:∃n,R n a' W' then (least _ h).choose else 0) ⟨_,F0,μ0,i0,rfl,hJ0,hr0,hs0⟩ ?_
 intro a1 W1 h
 simp only [dif_pos h]
 obtain ⟨F1,μ1,i,hm,hI,hr1,hs1⟩:=(least _ h).choose_spec.1
 rw [<- hm]
 refine Code.wp_mono ?_ (round i hI W1 F1 μ1 a1 hr1)
 rintro e a' W' ⟨F',μ',s',hq,hr',hs⟩
 cases e with
 | normal =>
  obtain ⟨F2,μ2,i',⟨hI',hlt⟩,hr2,hs2⟩:=hq W' F' μ' a' hr'
  have hR:R (m i') a' W':=⟨F2,μ2,i',rfl,hI',hr2,(hs1.trans hs).trans hs2⟩
  refine ⟨⟨_,hR⟩,?_⟩
  simp only [dif_pos (show ∃n,R n a' W' from ⟨_,hR⟩)]
  exact Nat.lt_of_le_of_lt ((least (fun n=>R n a' W') ⟨_,hR⟩).choose_spec.2 _ hR) hlt
 | _=>exact ⟨F',μ',s',hq,hr',hs1.trans hs⟩
end
def lkF (b:List (Nat × SB)) (f:Nat->SB):Sto:=fun id=>cond (Nat.ble 1000 id) (f (id - 1000)) (lkB b id)
theorem lkF_hi (b:List (Nat × SB)) (f:Nat->SB) (k:Nat):lkF b f (k+1000)=f k:=by
 have h:Nat.ble 1000 (k+1000)=true:=Nat.ble_eq_true_of_le (Nat.le_add_left 1000 k)
 show cond (Nat.ble 1000 (k+1000)) (f (k+1000 - 1000)) _=_
 rw [h,Nat.add_sub_cancel]
 rfl
theorem lkF_lo (b:List (Nat × SB)) (f:Nat->SB) {id:Nat} (h:id<1000):lkF b f id=lkB b id:=by
 have:Nat.ble 1000 id=false:=by
  cases e:Nat.ble 1000 id
  ·rfl
  ·exact absurd (Nat.le_of_ble_eq_true e) (by omega)
 rw [lkF,this,cond_false]
theorem WkF.to {s : St} {l : List (Nat × AV)} {b : List (Nat × SB)} {f : Nat -> SB} (ht : WkT s (lkF b f) l) (hB : WkB s (lkF b f) b)
    (hf:∀k bd',(f k).body=some bd'->∃bd,(s.σ (k+1000)).body=some bd/\RnB s.σ (lkF b f) bd bd'):Wk s ⟨lkT l,lkF b f⟩ :=
  ⟨wkT_ok ht,fun id bd' h=>by
    by_cases hid:1000<=id
    · obtain ⟨k,rfl⟩:∃k,id=k+1000:=⟨id - 1000,by omega⟩
      rw [show (⟨lkT l,lkF b f⟩:St).σ (k+1000)=f k from lkF_hi b f k] at h
      exact hf k bd' h
    · rw [show (⟨lkT l,lkF b f⟩:St).σ id=lkB b id from lkF_lo b f (by omega)] at h
      exact wkB_ok hB id bd' h⟩
def mvS (σ:Sto) (i j L e eL tL:Nat) (bd:Body) (els2:List AV):Sto:=up1 (up1 (up1 σ i ⟨e+1,none⟩) j ⟨(σ j).ep+1,some bd⟩) L ⟨eL,some (.nest tL els2)⟩
section
variable {σ : Sto} {i j L e eL tL : Nat} {bd : Body} {els2 : List AV}
theorem mvS_L:mvS σ i j L e eL tL bd els2 L=⟨eL,some (.nest tL els2)⟩:=by rw [mvS,up1_eq,if_pos rfl]
theorem mvS_j (h:L≠j):mvS σ i j L e eL tL bd els2 j=⟨(σ j).ep+1,some bd⟩:=by rw [mvS,up1_eq,if_neg (Ne.symm h),up1_eq,if_pos rfl]
theorem mvS_i (h:L≠i) (h':i≠j):mvS σ i j L e eL tL bd els2 i=⟨e+1,none⟩:=by rw [mvS,up1_eq,if_neg (Ne.symm h),up1_eq,if_neg h',up1_eq,if_pos rfl]
theorem mvS_o {k:Nat} (h1:k≠i) (h2:k≠j) (h3:k≠L):mvS σ i j L e eL tL bd els2 k=σ k:=by rw [mvS,up1_eq,if_neg h3,up1_eq,if_neg h2,up1_eq,if_neg h1]
end
theorem move_rs {N : Nat} {W : World} {F : Nat -> Prop} {μ : Mu} {s : St} {a : Act} (hr : RS N W F μ s a) {i j L e eL tL : Nat} {bd : Body} {els els2 : List AV} (hij : i ≠ j) (hiL : L ≠ i) (hjL : L ≠ j) (hi : s.σ i = ⟨e, some bd⟩) (hj : (s.σ j).body = none)
    (hL:s.σ L=⟨eL,some (.nest tL els)⟩) (hl:els2.length=els.length) (he:∀(k:Nat) (x x2:AV),els[k]?=some x->els2[k]?=some x2->x2=x\/∃off n,x = .row i e off n/\x2 = .row j ((s.σ j).ep+1) off n) :
    RS N W F (upm μ j (μ i)) ⟨s.ts,mvS s.σ i j L e eL tL bd els2⟩ a/\Stq W F μ s.σ W F (upm μ j (μ i)) (mvS s.σ i j L e eL tL bd els2):=by
  have g1:=@mvS_L s.σ i j L e eL tL bd els2
  have g2:=@mvS_j s.σ i j L e eL tL bd els2 hjL
  have g3:=@mvS_i s.σ i j L e eL tL bd els2 hiL hij
  have g4:∀k,k≠i->k≠j->k≠L->mvS s.σ i j L e eL tL bd els2 k=s.σ k:=fun k h1 h2 h3=>mvS_o h1 h2 h3
  generalize mvS s.σ i j L e eL tL bd els2=σ2 at g1 g2 g3 g4
  have m1:upm μ j (μ i) j=μ i:=by rw [upm_eq,if_pos rfl]
  have m2:∀k,k≠j->upm μ j (μ i) k=μ k:=fun k h=>by rw [upm_eq,if_neg h]
  generalize upm μ j (μ i)=μ2 at m1 m2
  -- where a living block of the new state lay
  have φ:∀id,(σ2 id).body.isSome=true->∃id0,(s.σ id0).body.isSome=true/\μ id0=μ2 id/\(id0=id\/(id=j/\id0=i))/\id≠i:=fun id h=>by
    by_cases e1:id=i
    · subst e1;rw [g3] at h;cases h
    by_cases e2:id=j
    · subst e2;exact ⟨i,by rw [hi];rfl,m1.symm,.inr ⟨rfl,rfl⟩,e1⟩
    by_cases e3:id=L
    · subst e3;exact ⟨id,by rw [hL];rfl,(m2 _ e2).symm,.inl rfl,e1⟩
    · rw [g4 id e1 e2 e3] at h
      exact ⟨id,h,(m2 _ e2).symm,.inl rfl,e1⟩
  have own:∀b,Own μ2 σ2 b->Own μ s.σ b:=fun b ⟨id,ep,bd',c,h1,h2⟩=>by
    obtain ⟨id0,k1,k2,_⟩:=φ id (by rw [h1];rfl)
    obtain ⟨bd0,k3⟩:=Option.isSome_iff_exists.1 k1
    exact ⟨id0,_,bd0,c,SB.mk' rfl k3,k2.trans h2⟩
  have hst:Stp W F μ s.σ W F μ2 σ2:=by
    refine ⟨Kp.refl _ _,fun _ h=>h,fun _ h=>.inl h,fun b h=>.inl (own b h),fun id=>?_,fun id hep bd' hb'=>?_⟩
    · by_cases e1:id=i
      · subst e1;rw [g3,hi];exact Nat.le_succ _
      by_cases e2:id=j
      · subst e2;rw [g2];exact Nat.le_succ _
      by_cases e3:id=L
      · subst e3;rw [g1,hL];exact Nat.le_refl _
      · rw [g4 id e1 e2 e3];exact Nat.le_refl _
    · by_cases e1:id=i
      · subst e1;rw [g3] at hb';cases hb'
      by_cases e2:id=j
      · subst e2;rw [g2] at hep;simp only at hep;omega
      by_cases e3:id=L
      · subst e3
        rw [g1] at hb'
        obtain rfl:Body.nest tL els2=bd':=by simpa using hb'
        exact ⟨_,by rw [hL],by simp [Body.sh,hl],m2 _ e2⟩
      · rw [g4 id e1 e2 e3] at hb'
        exact ⟨bd',hb',rfl,m2 _ e2⟩
  refine ⟨⟨fun t=>(hr.ts t).stp hr.inv hst,hr.defers,hr.n,⟨fun id ep bd' hb'=>?_,fun b hb=>hr.inv.apart b (own b hb),fun id id' b c c' h1 h2 h3 h4=>?_,hr.inv.old⟩⟩,hst.q⟩
  · replace hb':σ2 id=⟨ep,some bd'⟩:=hb'
    by_cases e1:id=i
    · subst e1;rw [g3] at hb';injection hb' with _ h;cases h
    by_cases e2:id=j
    · subst e2
      rw [g2] at hb'
      obtain rfl:bd=bd':=by injection hb' with _ h;exact Option.some.inj h
      rw [m1]
      exact (hr.inv.body i e bd hi).stp hr.inv hst fun _ _ _=>rfl
    by_cases e3:id=L
    · subst e3
      rw [g1] at hb'
      obtain rfl:Body.nest tL els2=bd':=by injection hb' with _ h;exact Option.some.inj h
      rw [m2 _ e2]
      rcases hr.inv.body _ _ _ hL with ⟨hn,rfl⟩ | ⟨b,cap,cur,hp,hh,q1,q2,q3,q4⟩
      · exact .inl ⟨hn,List.length_eq_zero_iff.1 hl⟩
      · refine .inr ⟨b,cap,cur,hp,hh,by omega,q2,q3,fun k x2 hk=>?_⟩
        obtain ⟨x,hx⟩:∃x,els[k]?=some x:=⟨_,List.getElem?_eq_getElem (by rw [<- hl];exact (List.getElem?_eq_some_iff.1 hk).1)⟩
        obtain ⟨o1,v,hv,hrel⟩:=q4 k x hx
        rcases he k x x2 hx hk with rfl | ⟨off,n,rfl,rfl⟩
        · exact ⟨o1,v,hv,hrel.stp hr.inv hst⟩
        · refine ⟨rfl,v,hv,?_⟩
          cases hrel with
          | pure h=>cases h
          | row _ _ _ _ _ w1 w2 w3 =>
            refine .row _ _ _ _ _ (by show _<=(σ2 j).ep;rw [g2];exact Nat.le_refl _) w2 fun bd1 m1' l1 hb1 hL1=>?_
            replace hb1:σ2 j=_:=hb1
            rw [g2] at hb1
            obtain rfl:bd=bd1:=by injection hb1 with _ h;exact Option.some.inj h
            rw [m1]
            exact w3 bd m1' l1 hi hL1
    · rw [g4 id e1 e2 e3] at hb'
      rw [m2 _ e2]
      exact (hr.inv.body id ep bd' hb').stp hr.inv hst fun _ _ _=>rfl
  · obtain ⟨x,k1,k2,k3,k4⟩:=φ id h1
    obtain ⟨x',k1',k2',k3',k4'⟩:=φ id' h2
    have hx:x=x':=hr.inv.inj x x' b c c' k1 k1' (k2.trans h3) (k2'.trans h4)
    rcases k3 with rfl | ⟨rfl,rfl⟩ <;> rcases k3' with rfl | ⟨rfl,rfl⟩
    · exact hx
    · exact absurd hx k4
    · exact absurd hx.symm k4'
    · rfl
end Go.Proofs.YtoaibdbehlcnfaaGreat.Sm
end
section
namespace Go.Proofs.YtoaibdbehlcnfaaGreat.Sm
open Go.RowKit
theorem Rel.mu {W:World} {F:Nat->Prop} {μ μ2:Mu} {σ:Sto} (h:∀id,(σ id).body.isSome=true->μ2 id=μ id) {x:AV} {v:Value} (hx:Rel W F μ σ x v):Rel W F μ2 σ x v:=by
 have al:∀{id ep:Nat} {bd:Body},σ id=⟨ep,some bd⟩->μ2 id=μ id:=fun e=>h _ (by rw [e];rfl)
 induction hx with
 | pure h=>exact .pure h
 | own id ep off v he h1 hv=>exact .own id ep off v he h1 fun bd hb=>by rw [al hb];exact hv bd hb
 | el id ep k j v he h1 hv=>exact .el id ep k j v he h1 fun bd m len hb hL=>by rw [al hb];exact hv bd m len hb hL
 | row id ep off n v he h1 hv=>exact .row id ep off n v he h1 fun bd m len hb hL=>by rw [al hb];exact hv bd m len hb hL
 | ref id ep k v he h1 hv=>exact .ref id ep k v he h1 fun bd hb=>by rw [al hb];exact hv bd hb
 | agg cs vs hl h1 _ ih=>exact .agg cs vs hl h1 ih
 | tup cs vs hl _ ih=>exact .tup cs vs hl ih
 | fn f first caps fs cs hf hc _ _ ih ih'=>exact .fn f first caps fs cs hf hc ih ih'
 | any v=>exact .any v
theorem BodyRel.mu {W:World} {F:Nat->Prop} {μ μ2:Mu} {σ:Sto} (h:∀id,(σ id).body.isSome=true->μ2 id=μ id) {p:Option (Nat × Nat)} {bd:Body} (hb:BodyRel W F μ σ p bd):BodyRel W F μ2 σ p bd:=by
 cases bd with
 | box t cs =>
  obtain ⟨b,c,vs,h1,h2,h3,h4⟩:=hb
  exact ⟨b,c,vs,h1,h2,h3,fun j x v hj hv=>⟨(h4 j x v hj hv).1,(h4 j x v hj hv).2.mu h⟩⟩
 | row t m els=>exact hb
 | obj o=>exact hb
 | ghost id ep q=>exact ⟨hb.1,hb.2.1,fun bd hbd=>by rw [h id (by rw [hbd];rfl)];exact hb.2.2 bd hbd⟩
 | nest t els =>
  rcases hb with h0 | ⟨b,cap,cur,h1,h2,h3,h4,h5,h6⟩
  ·exact .inl h0
  ·exact .inr ⟨b,cap,cur,h1,h2,h3,h4,h5,fun k x hk=>by obtain ⟨q1,v,q2,q3⟩:=h6 k x hk;exact ⟨q1,v,q2,q3.mu h⟩⟩
theorem RnB.rel {W:World} {F:Nat->Prop} {μ:Mu} {σ σ':Sto} {bd bd':Body} (hR:RnB σ σ' bd bd') {p:Option (Nat × Nat)} (hB:BodyRel W F μ σ p bd):BodyRel W F μ σ' p bd':=by
  cases hR with
  | row t m els=>exact hB
  | rowT t m n els=>exact hB.take n
  | obj o=>exact hB
  | @nest t els els' hl h1 hrn =>
    rcases hB with ⟨hn,rfl⟩ | ⟨b,cap,cur,hp,hh,q1,q2,q3,q4⟩
    · exact .inl ⟨hn,List.length_eq_zero_iff.1 hl⟩
    · refine .inr ⟨b,cap,cur,hp,hh,by omega,q2,q3,fun k x' hk=>⟨h1 k x' hk,?_⟩⟩
      obtain ⟨x,hx⟩:∃x,els[k]?=some x:=⟨_,List.getElem?_eq_getElem (by rw [<- hl];exact (List.getElem?_eq_some_iff.1 hk).1)⟩
      obtain ⟨_,v,hv,hr'⟩:=q4 k x hx
      exact ⟨v,hv,(hrn k x x' hx hk).rel hr'⟩
  | ghost h h'=>exact ⟨hB.1,by rw [h'];exact Nat.le_refl _,fun bd _=>hB.2.2 _ h⟩
  | @box t cs cs' hl h1 hrn =>
    obtain ⟨b,c,vs,hm,hw,hlv,hv⟩:=hB
    refine ⟨b,c,vs,hm,hw,by rw [hlv,hl],fun j x' v hj hvj=>⟨h1 j x' hj,?_⟩⟩
    obtain ⟨x,hxj⟩:∃x,cs[j]?=some x:=⟨_,List.getElem?_eq_getElem (by rw [<- hl];exact (List.getElem?_eq_some_iff.1 hj).1)⟩
    exact (hrn j x x' hxj hj).rel (hv j x v hxj hvj).2
structure GDoes (P:Program) (f:FuncId) (args:List AV) (r:AV) (g:Sto):Prop where
 fn : ∃ fn c, P.funcs[f]? = some fn /\ fn.body = some c /\ (fn.name == "runtime.NumGoroutine") = false
 calls:∀(W:World) (F:Nat->Prop) (vs:List Value),vs.length=args.length->(∀(j:Nat) (x:AV) (v:Value),args[j]?=some x->vs[j]?=some v->PRel W F x v)->(∀b,F b->b<W.heap.size) ->
  Calls P f vs.toArray W fun e W'=>∃(v:Value) (F':Nat->Prop) (μ':Mu),e = .returned v/\Kp No W W'/\(∀b,F b->F' b)/\(∀b,F' b->F b\/W.heap.size<=b)/\(∀b,Own μ' g b->W.heap.size<=b)/\Inv W' F' μ' g/\Rel W' F' μ' g r v
def retG (P:Program) (fn:Func) (r:AV) (g:Sto) (e:Exit) (s:St):Prop :=
 (e = .normal\/e = .ret)/\∃x,ResOk P fn s x/\Rn s.σ g x r/\∀id bd',(g id).body=some bd'->∃bd,(s.σ id).body=some bd/\RnB s.σ g bd bd'
theorem GDoes.of_body {P : Program} {f : FuncId} {fn : Func} {c : Code} {args : List AV} {r : AV} {g : Sto} {N : Nat} (hf : P.funcs[f]? = some fn) (hb : fn.body = some c) (hn : (fn.name == "runtime.NumGoroutine") = false) (hN : fn.ntmps = N) (hlen : Nat.ble args.length N = true)
    (h:AW P N c (retG P fn r g) (st0 args)):GDoes P f args r g:=by
  subst hN
  have hlen:=Nat.le_of_ble_eq_true hlen
  refine ⟨⟨fn,c,hf,hb,hn⟩,fun W F vs hl hv hF=>?_⟩
  have hi:Inv W F (fun _=>none) (fun _=>⟨0,none⟩):=⟨fun _ _ _ h=>(by cases h),fun b ⟨_,_,_,_,h,_⟩=>(by cases h),fun _ _ _ _ _ h=>(by cases h),hF⟩
  have hr:RS fn.ntmps W F (fun _=>none) (st0 args) { tmps:=vs.toArray++Array.replicate (fn.ntmps - vs.toArray.size) undef,defers:=[] }:=by
    refine ⟨fun t=>?_,rfl,by simp;omega,hi⟩
    show Rel W F _ _ (args.getD t (.tup [])) _
    rw [Array.getD_eq_getD_getElem?,Array.getElem?_append,List.getD_eq_getElem?_getD]
    by_cases ht:t<args.length
    · have h1:args[t]?=some args[t]:=List.getElem?_eq_getElem ht
      have h2:vs[t]?=some vs[t]:=List.getElem?_eq_getElem (by omega)
      rw [if_pos (by simp;omega),List.getElem?_toArray,h1,h2]
      exact .pure (hv t _ _ h1 h2)
    · rw [if_neg (by simp;omega),List.getElem?_eq_none (by omega)]
      have:(Array.replicate (fn.ntmps - vs.toArray.size) undef)[t - vs.toArray.size]?.getD undef=undef:=by
        rw [Array.getElem?_replicate]
        split <;> rfl
      rw [this]
      exact .pure (.tup [] [] rfl (by simp))
  refine calls_of_wp hf hb (Code.wp_mono ?_ (h W F _ _ hr))
  rintro e a' W' ⟨F',μ',s',⟨he,x,hres,hx,hB⟩,hr',hs⟩
  obtain ⟨v,hrun,hxv⟩:=hres W' F' μ' a' hr'
  have hno:∀b,¬Own (fun _=>none) (fun _=>(⟨0,none⟩:SB)) b:=fun b ⟨_,_,_,_,h,_⟩=>(by cases h)
  have hw:Wk s' ⟨fun _=>.any,g⟩:=⟨fun _=>.any _,hB⟩
  have hfin:∃(v':Value) (F'':Nat->Prop) (μ'':Mu),Ending.returned v = .returned v'/\Kp No W W'/\(∀b,F b->F'' b)/\(∀b,F'' b->F b\/W.heap.size<=b)/\(∀b,Own μ'' g b->W.heap.size<=b)/\Inv W' F'' μ'' g/\Rel W' F'' μ'' g r v' :=
    ⟨v,F',μ',rfl,hs.kp.mono fun b _ hb=>(hno b hb).elim,hs.fro,fun b hb=>(hs.new b hb).imp (fun h=>h) fun h=>h.resolve_left (hno b),fun b hb=>(hs.own b (hw.own hb)).resolve_left (hno b),(hw.rs hr').inv,hx.rel hxv⟩
  rcases he with rfl | rfl <;> exact ⟨hr'.defers,_,hrun,hfin⟩
structure GIds (g:Sto) (r:AV) (ids:List Nat):Prop where
 mem:∀id,id∈ids↔(g id).body.isSome=true
 hi:∀id,id∈ids->1000<=id
 pos:∀id,id∈ids->0<(g id).ep
 none:∀id,id∉ids->g id=⟨0,none⟩
 self:∀σ2:Sto,(∀id,id∈ids->σ2 id=g id)->Rn g σ2 r r/\∀id bd,(g id).body=some bd->RnB g σ2 bd bd
theorem ups_ids {g:Sto}:∀{ids:List Nat} {σ:Sto} {j:Nat},ups σ (ids.map fun id=>(id,g id)) j=if j∈ids then g j else σ j
 | [],σ,j=>rfl
 | id::ids,σ,j=>by
  rw [List.map_cons,ups,ups_ids,up1_eq]
  by_cases h:j∈ids
  ·rw [if_pos h,if_pos (List.mem_cons_of_mem _ h)]
  ·rw [if_neg h]
   by_cases h':j=id
   ·subst h';rw [if_pos rfl,if_pos (by simp)]
   ·rw [if_neg h',if_neg (by simp [h,h'])]
theorem oploc_callG {P : Program} {N : Nat} {o : Oper} {c : Call} {fop : Operand} {s : St} {f : FuncId} {first caps ys : List AV} {r : AV} {g : Sto} {ids : List Nat} (ho : o.op = .call c) (hc : c.callee = .value fop) (hf : s.ev fop = .fn f first caps)
    (hz:FzL s.σ (first++(c.args.toList.map s.ev++caps)) ys []) (h:GDoes P f ys r g) (hg:GIds g r ids) (hfree:∀id,1000<=id->s.σ id=⟨0,none⟩):OpLoc P N o s ⟨r,ids.map fun id=>(id,g id),[]⟩:=by
  intro s' hev _ hid' W F μ a hr K Q hK
  have hfree':∀id,id∈ids->s'.σ id=⟨0,none⟩:=fun id hin=>(hid' (id,g id) (List.mem_map_of_mem (f:=fun id=>(id,g id)) hin)).trans (hfree id (hg.hi id hin))
  have hopers:o.op.operands.toList=fop::c.args.toList:=by
    rw [ho]
    simp [Op.operands,Call.operands,hc]
  have hf':s'.ev fop = .fn f first caps:=(hev fop (by rw [hopers];simp)).trans hf
  have hargs:c.args.toList.map s'.ev=c.args.toList.map s.ev:=List.map_congr_left fun x hx=>hev x (by rw [hopers];simp [hx])
  have hz':=hz.congr (σ':=s'.σ) (fun id hin=>by cases hin)
  rw [<- hargs] at hz'
  have hfv:=hr.ev fop
  rw [hf'] at hfv
  obtain ⟨fs,cs,hfe,hfl,hcl,hfr,hcr⟩:=hfv.fn'
  obtain ⟨fn,bd,g1,g2,g3⟩:=h.fn
  unfold Oper.wp
  rw [exec_call ho hc hfe g1 g2 g3]
  show Calls P f _ W _
  have hrel:=hz'.rel (W:=W) (F:=F) (μ:=μ) hr.inv (vs:=fs++(c.args.toList.map a.eval++cs)) (by simp [hfl,hcl]) (fun j x v hx hv=>by
    rw [List.getElem?_append] at hx hv
    rw [hfl] at hv
    split at hx
    · rename_i hlt
      rw [if_pos hlt] at hv
      exact hfr j x v hx hv
    · rename_i hlt
      rw [if_neg hlt] at hv
      rw [List.getElem?_append] at hx hv
      simp only [List.length_map] at hx hv
      split at hx
      · rename_i hlt2
        rw [if_pos hlt2] at hv
        rw [List.getElem?_map] at hx hv
        cases hq:c.args.toList[j - first.length]? with
        | none=>rw [hq] at hx;cases hx
        | some q =>
          rw [hq] at hx hv
          obtain rfl:s'.ev q=x:=by simpa using hx
          obtain rfl:a.eval q=v:=by simpa using hv
          exact hr.ev q
      · rename_i hlt2
        rw [if_neg hlt2] at hv
        exact hcr _ x v hx hv)
  have hF0:∀b,(F b\/Beh μ s'.σ [] b)->F b:=fun b hb=>hb.elim (fun h=>h) fun ⟨id,hin,_⟩=>by cases hin
  refine (h.calls W F _ hrel.1.symm (fun j y v hy hv=>(hrel.2 j y v hy hv).to hF0) hr.inv.old).mono ?_
  rintro e W' ⟨v,F',μ',rfl,hk,hF1,hF2,hown,hI,hv⟩
  have hσ2:∀id,ups s'.σ (ids.map fun id=>(id,g id)) id=if id∈ids then g id else s'.σ id:=fun id=>ups_ids
  have eq1:∀id,id∈ids->ups s'.σ (ids.map fun id=>(id,g id)) id=g id:=fun id hin=>by rw [hσ2,if_pos hin]
  have eq2:∀id,id∉ids->ups s'.σ (ids.map fun id=>(id,g id)) id=s'.σ id:=fun id hin=>by rw [hσ2,if_neg hin]
  show K (a.put o.dst v) W'
  have key:∀σ2:Sto,(∀id,id∈ids->σ2 id=g id)->(∀id,id∉ids->σ2 id=s'.σ id)->∃μ2,Stp W F μ s'.σ W' F' μ2 σ2/\Inv W' F' μ2 σ2/\Rel W' F' μ2 σ2 r v:=fun σ2 e1 e2=>by
    let μ2:Mu:=fun id=>if (g id).body.isSome=true then μ' id else μ id
    have m1:∀id,(g id).body.isSome=true->μ2 id=μ' id:=fun id h=>if_pos h
    have m2:∀id,id∉ids->μ2 id=μ id:=fun id h=>if_neg fun h'=>h ((hg.mem id).2 h')
    have size:=hk.size
    have own:∀b,Own μ2 σ2 b->(Own μ' g b/\W.heap.size<=b)\/Own μ s'.σ b:=fun b ⟨id,ep,bd,c,h1,h2⟩=>by
      by_cases hin:id∈ids
      · rw [e1 id hin] at h1
        rw [m1 id ((hg.mem id).1 hin)] at h2
        have:Own μ' g b:=⟨id,ep,bd,c,h1,h2⟩
        exact .inl ⟨this,hown b this⟩
      · rw [e2 id hin] at h1
        rw [m2 id hin] at h2
        exact .inr ⟨id,ep,bd,c,h1,h2⟩
    have hs:Stp W F μ s'.σ W' F' μ2 σ2:=by
      refine ⟨hk.mono fun b _ hb=>hb.elim,hF1,fun b hb=>(hF2 b hb).imp (fun h=>h) .inr,fun b hb=>(own b hb).elim (fun h=>.inr h.2) .inl,fun id=>?_,fun id he bd' hb'=>?_⟩
      · by_cases hin:id∈ids
        · rw [hfree' id hin];exact Nat.zero_le _
        · rw [e2 id hin];exact Nat.le_refl _
      · by_cases hin:id∈ids
        · rw [hfree' id hin,e1 id hin] at he
          have:=hg.pos id hin
          simp only at he
          omega
        · rw [e2 id hin] at hb'
          exact ⟨bd',hb',rfl,m2 id hin⟩
    obtain ⟨hself,hselfB⟩:=hg.self σ2 e1
    refine ⟨μ2,hs,⟨fun id ep bd hbd=>?_,fun b hb=>?_,fun id id' b c c' h1 h2 h3 h4=>?_,hI.old⟩,hself.rel (hv.mu m1)⟩
    · by_cases hin:id∈ids
      · rw [e1 id hin] at hbd
        rw [m1 id ((hg.mem id).1 hin)]
        exact (hselfB id bd (by rw [hbd])).rel ((hI.body id ep bd hbd).mu m1)
      · rw [e2 id hin] at hbd
        rw [m2 id hin]
        exact (hr.inv.body id ep bd hbd).stp hr.inv hs fun b c hp=>hk.block b (hr.inv.apart b ⟨id,ep,bd,c,hbd,hp⟩).1 fun h=>h
    · rcases own b hb with ⟨h1,_⟩ | h1
      · exact hI.apart b h1
      · obtain ⟨q1,q2⟩:=hr.inv.apart b h1
        exact ⟨by omega,fun hf=>(hF2 b hf).elim q2 (by omega)⟩
    · have cls : ∀ id c, (σ2 id).body.isSome = true -> μ2 id = some (b, c) -> (id ∈ ids /\ (g id).body.isSome = true /\ μ' id = some (b, c) /\ W.heap.size <= b) \/ (id ∉ ids /\ (s'.σ id).body.isSome = true /\ μ id = some (b, c) /\ b < W.heap.size) := fun id c q1 q2 => by
        by_cases hin:id∈ids
        · have hs':=(hg.mem id).1 hin
          rw [m1 id hs'] at q2
          obtain ⟨bd,hbd⟩:=Option.isSome_iff_exists.1 hs'
          exact .inl ⟨hin,hs',q2,hown b ⟨id,_,bd,c,SB.mk' rfl hbd,q2⟩⟩
        · rw [e2 id hin] at q1
          rw [m2 id hin] at q2
          obtain ⟨bd,hbd⟩:=Option.isSome_iff_exists.1 q1
          exact .inr ⟨hin,q1,q2,(hr.inv.apart b ⟨id,_,bd,c,SB.mk' rfl hbd,q2⟩).1⟩
      rcases cls id c h1 h3 with ⟨_,a1,a2,a3⟩ | ⟨_,a1,a2,a3⟩ <;> rcases cls id' c' h2 h4 with ⟨_,b1,b2,b3⟩ | ⟨_,b1,b2,b3⟩
      · exact hI.inj id id' b c c' a1 b1 a2 b2
      · omega
      · omega
      · exact hr.inv.inj id id' b c c' a1 b1 a2 b2
  obtain ⟨μ2,hs,hi2,hv2⟩:=key _ eq1 eq2
  exact hK W' F' μ2 _ (hr.put hs hi2 (dst:=o.dst) (x:=r) (v:=v) hv2) hs
def impS (σ g:Sto):Sto:=fun id=>cond (Nat.ble 1000 id) (g id) (σ id)
theorem impS_eq {σ g:Sto} {r:AV} {ids:List Nat} (hg:GIds g r ids) (hfree:∀id,1000<=id->σ id=⟨0,none⟩):ups σ (ids.map fun id=>(id,g id))=impS σ g:=by
  funext j
  rw [ups_ids,impS]
  cases hb:Nat.ble 1000 j
  · rw [if_neg fun h=>by have:=Nat.ble_eq_true_of_le (hg.hi j h);rw [hb] at this;cases this]
    rfl
  · rw [cond_true]
    by_cases hin:j∈ids
    · rw [if_pos hin]
    · rw [if_neg hin,hg.none j hin,hfree j (Nat.le_of_ble_eq_true hb)]
theorem RG.callG {P:Program} {N:Nat} {ops:Array Oper} {rest:List Oper} {K:St->List Eff->Prop} {o:Oper} {ts:Nat->AV} {σ:Sto} {c:Call} {f:FuncId} {xs ys zs:List AV} {r:AV} {g:Sto} {ids:List Nat} (hgd:gd ops ⟨ts,σ⟩ o=some true) (ho:o.op = .call c) (ha:argsA ⟨ts,σ⟩ c=some (f,xs)) (hz:fzL σ 6 xs=some (ys,[])) (hy:ys=zs)
  (h:GDoes P f zs r g) (hg:GIds g r ids) (hfree:∀id,1000<=id->σ id=⟨0,none⟩) {d:Option Nat} (hd:o.dst=d)
  (hr:RG P N ops rest ⟨putS N ts d r,impS σ g⟩ fun s' Es=>K s' (⟨r,ids.map fun id=>(id,g id),[]⟩::Es)):RG P N ops (o::rest) ⟨ts,σ⟩ K:=by
 subst hy hd
 rw [<- impS_eq hg hfree] at hr
 unfold argsA at ha
 split at ha
 ·rename_i fop hc
  split at ha
  ·rename_i f' first caps hf
   simp only [Option.some.injEq,Prod.mk.injEq] at ha
   obtain ⟨rfl,rfl⟩:=ha
   exact RG.op hgd (oploc_callG ho hc hf (fzL_ok hz) h hg hfree) hr
  ·cases ha
 ·cases ha
end Go.Proofs.YtoaibdbehlcnfaaGreat.Sm
end
section
namespace Go.Proofs.YtoaibdbehlcnfaaGreat.Sm
open Go.RowKit
section
variable {P : Program} {N : Nat} {o : Oper} {s : St}
theorem op_stN {t ty id ep k : Nat} {ti : TI} {p x : Operand} {els : List AV} {z : AV} (ho : o.op = .store t p x) (ht : TiOk P t ti) (hp : s.ev p = .el id ep k 0) (hid : s.σ id = ⟨ep, some (.nest ty els)⟩) (hk : k < els.length) (hx : s.ev x = z) (hc : z.cells = [z]) (h1 : z.one = true) (hn : ti.n = 1) :
    OpLoc P N o s ⟨.tup [],[(id,⟨ep,some (.nest ty (els.set k z))⟩)],[]⟩:=by
  intro s' g1 g2 g3 W F μ a hr K Q hK
  have hid':s'.σ id=⟨ep,some (.nest ty els)⟩:=(g3 (id,⟨ep,some (.nest ty (els.set k z))⟩) (by simp)).trans hid
  have ep':=hr.ev p
  rw [g1 p (by rw [ho];simp [Op.operands]),hp] at ep'
  obtain ⟨_,_,hv⟩:=Rel.elN ep'
  obtain ⟨b,c,hm,hv⟩:=hv _ _ hid'
  rcases hr.inv.body _ _ _ hid' with ⟨_,rfl⟩ | ⟨b',cap,cur,hm',hh,q1,q2,q3,q4⟩
  · simp at hk
  obtain ⟨rfl,rfl⟩:b=b'/\c=cap:=by rw [hm] at hm';simpa using hm'
  have ex:=hr.ev x
  rw [g1 x (by rw [ho];simp [Op.operands]),hx] at ex
  obtain ⟨hxl,hxp⟩:=cells_rel ex (by rw [hc];intro y hy;obtain rfl:=List.mem_singleton.1 hy;exact h1)
  rw [hc] at hxl hxp
  have hsz:(a.eval x).cells.size=ti.n:=by rw [<- Array.length_toList,hxl,hn];rfl
  obtain ⟨u,hu⟩:∃u,(a.eval x).cells.toList=[u]:=by
    match hq:(a.eval x).cells.toList,hxl with
    | [u],_=>exact ⟨u,rfl⟩
  rw [hu] at hxp
  obtain ⟨_,hzu⟩:=hxp 0 z u rfl rfl
  have hone:∀w∈(a.eval x).cells.toList,w.oneCell'=true:=fun w hw=>by
    rw [hu] at hw
    obtain rfl:=List.mem_singleton.1 hw
    exact hzu.one h1
  have hrun:=storeVar_run ht (P:=P) hh hsz (by omega) hone (off:=k)
  rw [hu,hn] at hrun
  generalize hnew:(cur.toList.take k++[u]++cur.toList.drop (k+1))=new at hrun
  have hnl:new.length=cur.size:=by
    rw [<- hnew]
    simp only [List.length_append,List.length_take,List.length_drop,Array.length_toList,List.length_singleton]
    omega
  have hget:∀i,new[i]?=if i=k then some u else cur[i]?:=fun i=>by
    rw [<- hnew,List.append_assoc,List.getElem?_append,List.length_take,Array.length_toList,Nat.min_eq_left (by omega)]
    by_cases e1:i<k
    · rw [if_pos e1,if_neg (by omega),List.getElem?_take,if_pos e1,Array.getElem?_toList]
    · rw [if_neg e1,List.getElem?_append]
      by_cases e2:i=k
      · subst e2;rw [if_pos rfl,if_pos (by simp),Nat.sub_self];rfl
      · rw [if_neg e2,if_neg (by simp;omega),List.getElem?_drop,Array.getElem?_toList]
        congr 1
        simp only [List.length_singleton]
        omega
  have hkp:Kp (fun b=>(s'.σ id).body.isSome=true/\∃c,μ id=some (b,c)) W (W.setRow b new.toArray):=(Kp.refl _ W).setRow' (by exact ⟨by rw [hid'];rfl,c,hm⟩) _
  obtain ⟨hs, hi⟩ := inv_turn hr.inv id (μ id) ep (.nest ty (els.set k z)) hkp (fun b1 c1 e => by
      rw [hm] at e
      obtain ⟨rfl,rfl⟩:b=b1/\c=c1:=by simpa using e
      exact ⟨by simpa using (hr.inv.apart b ⟨id,ep,_,c,hid',hm⟩).1,.inr ⟨by rw [hid'];rfl,c,hm⟩⟩)
    (.inr ⟨by rw [hid'],_,by rw [hid'],by simp [Body.sh],rfl⟩) (fun hs=>by
      refine .inr ⟨b,c,new.toArray,hm,setRow_heap W b _ _ _ _ hh,by simpa using q1,q2,by simpa [hnl] using q3,fun k' y hk'=>?_⟩
      rw [List.getElem?_set] at hk'
      rw [List.getElem?_toArray,hget]
      by_cases e:k=k'
      · subst e
        rw [if_pos rfl,if_pos hk] at hk'
        obtain rfl:=Option.some.inj hk'
        exact ⟨h1,u,by rw [if_pos rfl],hzu.stp hr.inv hs⟩
      · rw [if_neg e] at hk'
        rw [if_neg (fun h=>e h.symm)]
        obtain ⟨r1,v,r2,r3⟩:=q4 k' y hk'
        exact ⟨r1,v,r2,r3.stp hr.inv hs⟩)
  unfold Oper.wp
  have hrun':(execOp a.eval o).run P W = .ok .skip (W.setRow b new.toArray):=by
    simp only [execOp,ho,Instr.storeAt,Instr.sureAddr,hv,Sem.run_bind,Sem.run_pure,Result.andThen_ok,show k*1+0=k by omega,hrun]
  rw [hrun']
  exact hK _ F _ _ (hr.put hs hi (.pure (.tup [] [] rfl (by simp)))) hs
end
def AV.kn (p:Nat->Bool):AV->Bool
 | .own id _ _=>p id
 | .el id _ _ _=>p id
 | .row id _ _ _=>p id
 | .ref id _ _=>p id
 | .any=>true
 | x=>x.pu1
def Body.kn (p:Nat->Bool):Body->Bool
 | .box _ cs=>cs.all (AV.kn p)
 | .nest _ els=>els.all (AV.kn p)
 | .ghost _ _ _=>false
 | _=>true
theorem Rel.kn {W:World} {F:Nat->Prop} {μ:Mu} {σ σ':Sto} {p:Nat->Bool} {x:AV} (hk:x.kn p=true) (h:∀id,p id=true->σ' id=σ id) {v:Value} (hx:Rel W F μ σ x v):Rel W F μ σ' x v:=by
 cases hx with
 | pure h=>exact .pure h
 | own id ep off v he h1 hv=>rw [<- h id hk] at he;exact .own id ep off v he h1 fun bd hb=>hv bd (by rw [<- h id hk];exact hb)
 | el id ep k j v he h1 hv=>rw [<- h id hk] at he;exact .el id ep k j v he h1 fun bd m len hb hL=>hv bd m len (by rw [<- h id hk];exact hb) hL
 | row id ep off n v he h1 hv=>rw [<- h id hk] at he;exact .row id ep off n v he h1 fun bd m len hb hL=>hv bd m len (by rw [<- h id hk];exact hb) hL
 | ref id ep k v he h1 hv=>rw [<- h id hk] at he;exact .ref id ep k v he h1 fun bd hb=>hv bd (by rw [<- h id hk];exact hb)
 | agg cs vs hl h1 hr=>cases hk
 | tup cs vs hl hr=>cases hk
 | fn f first caps fs cs hf hc hr hr'=>cases hk
 | any v=>exact .any v
theorem BodyRel.kn {W:World} {F:Nat->Prop} {μ:Mu} {σ σ':Sto} {p:Nat->Bool} {bd:Body} (hk:bd.kn p=true) (h:∀id,p id=true->σ' id=σ id) {q:Option (Nat × Nat)} (hb:BodyRel W F μ σ q bd):BodyRel W F μ σ' q bd:=by
 cases bd with
 | box t cs =>
  obtain ⟨b,c,vs,h1,h2,h3,h4⟩:=hb
  exact ⟨b,c,vs,h1,h2,h3,fun j x v hj hv=>⟨(h4 j x v hj hv).1,(h4 j x v hj hv).2.kn (List.all_eq_true.1 hk x (List.mem_of_getElem? hj)) h⟩⟩
 | row t m els=>exact hb
 | obj o=>exact hb
 | ghost id ep q=>cases hk
 | nest t els =>
  rcases hb with h0 | ⟨b,cap,cur,h1,h2,h3,h4,h5,h6⟩
  ·exact .inl h0
  ·exact .inr ⟨b,cap,cur,h1,h2,h3,h4,h5,fun k x hx=>by obtain ⟨q1,v,q2,q3⟩:=h6 k x hx;exact ⟨q1,v,q2,q3.kn (List.all_eq_true.1 hk x (List.mem_of_getElem? hx)) h⟩⟩
theorem Rt.move {N:Nat} {ts:Nat->AV} {σ σ':Sto} {i j L e ej eL tL:Nat} {bd:Body} {els els2:List AV} (hij:i≠j) (hiL:L≠i) (hjL:L≠j) (hi:σ i=⟨e,some bd⟩) (hj:σ j=⟨ej,none⟩)
  (hL:σ L=⟨eL,some (.nest tL els)⟩) (hl:els2.length=els.length) (he:∀(k:Nat) (x x2:AV),els[k]?=some x->els2[k]?=some x2->x2=x\/∃off n,x = .row i e off n/\x2 = .row j (ej+1) off n)
  (g1:σ' L=⟨eL,some (.nest tL els2)⟩) (g2:σ' j=⟨ej+1,some bd⟩) (g3:(σ' i).body=none) (g4:∀k,k≠i->k≠j->k≠L->σ' k=σ k)
  (hT:∀t,(ts t).kn (fun k=>!Nat.beq k i)=true) (hB:∀k bd,(σ' k).body=some bd->bd.kn (fun k=>!Nat.beq k i)=true):Rt N ⟨ts,σ⟩ (fun _:Unit=>⟨ts,σ'⟩) (fun _=>True):=by
 intro W F μ a hr
 have ej0:(σ j).ep=ej:=by rw [hj]
 obtain ⟨hr1,hs1⟩:=move_rs hr hij hiL hjL hi (show (σ j).body=none by rw [hj]) hL hl (fun k x x2 q1 q2=>by rw [ej0];exact he k x x2 q1 q2)
 generalize hm:upm μ j (μ i)=μ2 at hr1 hs1
 have m1:=@mvS_L σ i j L e eL tL bd els2
 have m2:=@mvS_j σ i j L e eL tL bd els2 hjL
 have m3:=@mvS_i σ i j L e eL tL bd els2 hiL hij
 have m4:∀k,k≠i->k≠j->k≠L->mvS σ i j L e eL tL bd els2 k=σ k:=fun k h1 h2 h3=>mvS_o h1 h2 h3
 replace hr1:RS N W F μ2 ⟨ts,mvS σ i j L e eL tL bd els2⟩ a:=hr1
 replace hs1:Stq W F μ σ W F μ2 (mvS σ i j L e eL tL bd els2):=hs1
 generalize mvS σ i j L e eL tL bd els2=σ2 at hr1 hs1 m1 m2 m3 m4
 have eq:∀k,(!Nat.beq k i)=true->σ' k=σ2 k:=fun k hk=>by
  have hki:k≠i:=fun h=>by subst h;rw [beq_t] at hk;cases hk
  by_cases e1:k=j
  ·subst e1;rw [g2,m2,ej0]
  by_cases e2:k=L
  ·subst e2;rw [g1,m1]
  ·rw [g4 k hki e1 e2,m4 k hki e1 e2]
 have alive:∀k bd,(σ' k).body=some bd->σ' k=σ2 k/\k≠i:=fun k bd hb=>by
  have hki:k≠i:=fun h=>by subst h;rw [g3] at hb;cases hb
  exact ⟨eq k (by rw [beq_f hki];rfl),hki⟩
 have own:∀b,Own μ2 σ' b->Own μ2 σ2 b:=fun b ⟨id,ep,bd',c,h1,h2⟩=>⟨id,ep,bd',c,by rw [<- (alive id bd' (by rw [h1])).1];exact h1,h2⟩
 refine ⟨F,μ2,(),trivial,⟨fun t=>(hr1.ts t).kn (hT t) eq,hr1.defers,hr1.n,⟨fun id ep bd' hb=>?_,fun b hb=>hr1.inv.apart b (own b hb),fun id id' b c c' h1 h2 h3 h4=>?_,hr1.inv.old⟩⟩,hs1.trans ⟨Kp.refl _ _,fun _ h=>h,fun _ h=>.inl h,fun b hb=>.inl (own b hb)⟩⟩
 ·replace hb:σ' id=⟨ep,some bd'⟩:=hb
  have hal:=alive id bd' (by rw [hb])
  have hb2:σ2 id=⟨ep,some bd'⟩:=by rw [<- hal.1];exact hb
  exact (hr1.inv.body id ep bd' hb2).kn (hB id bd' (by rw [hb])) eq
 ·obtain ⟨bd1,e1⟩:=Option.isSome_iff_exists.1 h1
  obtain ⟨bd2,e2⟩:=Option.isSome_iff_exists.1 h2
  replace e1:(σ' id).body=some bd1:=e1
  replace e2:(σ' id').body=some bd2:=e2
  have a1:=(alive id bd1 e1).1
  have a2:=(alive id' bd2 e2).1
  exact hr1.inv.inj id id' b c c' (by show (σ2 id).body.isSome=true;rw [<- a1,e1];rfl) (by show (σ2 id').body.isSome=true;rw [<- a2,e2];rfl) h3 h4
theorem gM_ex:∃n:Nat,n=140737488355328:=⟨_,rfl⟩
noncomputable def gM:Nat:=gM_ex.choose
theorem gM_eq:gM=140737488355328:=gM_ex.choose_spec
theorem gM_pos:0<gM:=by rw [gM_eq];decide
noncomputable def rwI (n:Nat):Nat:=n*gM+1
noncomputable def clI (n k:Nat):Nat:=n*gM+(k+2)
noncomputable def famF (top:SB) (row:Nat->SB) (cell:Nat->Nat->SB):Nat->SB
 | 0=>top
 | j+1=>if j % gM=0 then row (j / gM) else cell (j / gM) (j % gM - 1)
section
variable {top top' : SB} {row row' : Nat -> SB} {cell cell' : Nat -> Nat -> SB}
theorem famF_r (n:Nat):famF top row cell (rwI n)=row n:=by
 rw [rwI,famF,Nat.mul_mod_left,if_pos rfl,Nat.mul_div_cancel _ gM_pos]
theorem famF_s (n:Nat) {k:Nat} (hk:k+1<gM):famF top row cell (clI n k)=cell n k:=by
 rw [clI,show n*gM+(k+2)=(n*gM+(k+1))+1 from rfl,famF,Nat.mul_add_mod_self_right,Nat.mod_eq_of_lt hk,if_neg (Nat.succ_ne_zero k),Nat.add_comm (n*gM),Nat.add_mul_div_right _ _ gM_pos,Nat.div_eq_of_lt hk,Nat.zero_add]
 rfl
theorem fam_ids (j:Nat):j=0\/(∃n,j=rwI n)\/∃n k,k+1<gM/\j=clI n k:=by
 cases j with
 | zero=>exact .inl rfl
 | succ j =>
  have h0:=Nat.div_add_mod j gM
  have h1:=Nat.mod_lt j gM_pos
  have h2:=Nat.mul_comm gM (j / gM)
  by_cases h:j % gM=0
  ·exact .inr (.inl ⟨j / gM,by unfold rwI;omega⟩)
  ·exact .inr (.inr ⟨j / gM,j % gM - 1,by omega,by unfold clI;omega⟩)
theorem rwI_inj {n m:Nat} (h:rwI n=rwI m):n=m:=by
 unfold rwI at h
 exact Nat.eq_of_mul_eq_mul_right gM_pos (Nat.succ.inj h)
theorem clI_inj {n m k l:Nat} (hk:k+1<gM) (hl:l+1<gM) (h:clI n k=clI m l):n=m/\k=l:=by
 unfold clI at h
 have h:n*gM+(k+1)=m*gM+(l+1):=Nat.succ.inj h
 have e1:(n*gM+(k+1)) % gM=k+1:=by rw [Nat.mul_add_mod_self_right,Nat.mod_eq_of_lt hk]
 have e2:(m*gM+(l+1)) % gM=l+1:=by rw [Nat.mul_add_mod_self_right,Nat.mod_eq_of_lt hl]
 rw [h,e2] at e1
 have e3:k=l:=by omega
 subst e3
 exact ⟨Nat.eq_of_mul_eq_mul_right gM_pos (Nat.add_right_cancel h),rfl⟩
theorem rwI_clI {n m k:Nat} (hk:k+1<gM) (h:rwI n=clI m k):False:=by
 unfold rwI clI at h
 have h:n*gM=m*gM+(k+1):=Nat.succ.inj h
 have e1:(m*gM+(k+1)) % gM=k+1:=by rw [Nat.mul_add_mod_self_right,Nat.mod_eq_of_lt hk]
 rw [<- h,Nat.mul_mod_left] at e1
 omega
theorem rwI_pos (n:Nat):rwI n≠0:=Nat.succ_ne_zero _
theorem clI_pos (n k:Nat):clI n k≠0:=Nat.succ_ne_zero _
theorem famF_cell {n i:Nat} (h1:top'=top) (h2:∀m,row' m=row m) (h3:∀m k,k+1<gM->(m≠n\/k≠i)->cell' m k=cell m k) {j:Nat} (hj:j≠clI n i):famF top' row' cell' j=famF top row cell j:=by
 rcases fam_ids j with rfl | ⟨m,rfl⟩ | ⟨m,k,hk,rfl⟩
 ·exact h1
 ·rw [famF_r,famF_r];exact h2 m
 ·rw [famF_s _ hk,famF_s _ hk]
  exact h3 m k hk (by
   by_cases e:m=n
   ·exact .inr fun e'=>hj (by rw [e,e'])
   ·exact .inl e)
end
end Go.Proofs.YtoaibdbehlcnfaaGreat.Sm
end
section
namespace Go.Proofs.YtoaibdbehlcnfaaGreat.Sm
open Go.RowKit
theorem Rt.wkU {N:Nat} {s s':St} (h:Wk s s'):Rt N s (fun _:Unit=>s') (fun _=>True):=Rt.wk (st:=fun _:Unit=>s') () trivial h
abbrev Rws:=List (List AV)
noncomputable def gE (n:Nat) (tb:List Rws):List AV:=tb.mapIdx fun k l=>AV.row (clI n k+1000) 1 0 l.length
noncomputable def tE (U:List (List Rws)):List AV:=U.mapIdx fun n tb=>AV.row (rwI n+1000) 1 0 tb.length
theorem gE_get (n:Nat) (tb:List Rws) (k:Nat):(gE n tb)[k]?=(tb[k]?).map fun l=>AV.row (clI n k+1000) 1 0 l.length:=by rw [gE,List.getElem?_mapIdx]
theorem tE_get (U:List (List Rws)) (n:Nat):(tE U)[n]?=(U[n]?).map fun tb=>AV.row (rwI n+1000) 1 0 tb.length:=by rw [tE,List.getElem?_mapIdx]
theorem gE_len (n:Nat) (tb:List Rws):(gE n tb).length=tb.length:=by rw [gE,List.length_mapIdx]
theorem tE_len (U:List (List Rws)):(tE U).length=U.length:=by rw [tE,List.length_mapIdx]
theorem gE_snoc (n:Nat) (tb:List Rws) (l:Rws):gE n (tb++[l])=gE n tb++[AV.row (clI n tb.length+1000) 1 0 l.length]:=by rw [gE,gE,List.mapIdx_concat]
theorem tE_snoc (U:List (List Rws)) (tb:List Rws):tE (U++[tb])=tE U++[AV.row (rwI U.length+1000) 1 0 tb.length]:=by rw [tE,tE,List.mapIdx_concat]
theorem gE_one (n:Nat) (tb:List Rws):∀(j:Nat) (x:AV),(gE n tb)[j]?=some x->x.one=true:=fun j x h=>by
 rw [gE_get] at h
 obtain ⟨l,_,rfl⟩:=Option.map_eq_some_iff.1 h
 rfl
theorem tE_one (U:List (List Rws)):∀(j:Nat) (x:AV),(tE U)[j]?=some x->x.one=true:=fun j x h=>by
 rw [tE_get] at h
 obtain ⟨l,_,rfl⟩:=Option.map_eq_some_iff.1 h
 rfl
section
variable (e1 e2 e3 m : Nat)
noncomputable def gTop (U:List (List Rws)):SB:=⟨1,some (.nest e1 (tE U))⟩
noncomputable def gRow (U:List (List Rws)) (n:Nat):SB:=match U[n]? with | some tb=>⟨1,some (.nest e2 (gE n tb))⟩ | none=>⟨0,none⟩
noncomputable def gCell (U:List (List Rws)) (n k:Nat):SB:=match (U[n]?).bind fun tb=>tb[k]? with | some l=>⟨1,some (.row e3 m l)⟩ | none=>⟨0,none⟩
noncomputable def gF (U:List (List Rws)) (P:List Rws):Nat->SB:=famF (gTop e1 U) (gRow e2 U) (gCell e3 m (U++[P]))
end
section
variable {e1 e2 e3 m : Nat} {U : List (List Rws)} {P : List Rws}
theorem gRow_some {n:Nat} {tb:List Rws} (h:U[n]?=some tb):gRow e2 U n=⟨1,some (.nest e2 (gE n tb))⟩:=by rw [gRow,h]
theorem gRow_none {n:Nat} (h:U[n]?=none):gRow e2 U n=⟨0,none⟩:=by rw [gRow,h]
theorem gCell_some {n k:Nat} {tb:List Rws} {l:Rws} (h:U[n]?=some tb) (h':tb[k]?=some l):gCell e3 m U n k=⟨1,some (.row e3 m l)⟩:=by rw [gCell,h,Option.bind_some,h']
theorem gRow_body {n:Nat} {bd:Body} (h:(gRow e2 U n).body=some bd):∃tb,U[n]?=some tb/\bd = .nest e2 (gE n tb):=by
 cases hq:U[n]? with
 | none=>rw [gRow_none hq] at h;cases h
 | some tb=>rw [gRow_some hq] at h;exact ⟨tb,rfl,(Option.some.inj h).symm⟩
theorem gCell_body {n k:Nat} {bd:Body} (h:(gCell e3 m U n k).body=some bd):∃tb l,U[n]?=some tb/\tb[k]?=some l/\bd = .row e3 m l:=by
 cases hq:(U[n]?).bind fun tb=>tb[k]? with
 | none=>rw [gCell,hq] at h;cases h
 | some l =>
  obtain ⟨tb,h1,h2⟩:=Option.bind_eq_some_iff.1 hq
  rw [gCell,hq] at h
  exact ⟨tb,l,h1,h2,(Option.some.inj h).symm⟩
theorem gCell_pre {n k:Nat} {tb:List Rws} {l:Rws} (h:U[n]?=some tb) (h':tb[k]?=some l):gCell e3 m (U++[P]) n k=⟨1,some (.row e3 m l)⟩ :=
 gCell_some (by rw [List.getElem?_append_left (List.getElem?_eq_some_iff.1 h).1];exact h) h'
theorem gCell_nil (n k:Nat):gCell e3 m (U++[[]]) n k=gCell e3 m U n k:=by
  rw [gCell,gCell]
  congr 1
  by_cases h:n<U.length
  · rw [List.getElem?_append_left h]
  · rw [List.getElem?_append_right (by omega),List.getElem?_eq_none (show U.length<=n by omega)]
    cases hq:n - U.length with
    | zero=>rfl
    | succ j=>rfl
def Fits (U:List (List Rws)):Prop:=∀tb∈U,tb.length+1<gM
theorem Fits.get (h:Fits U) {n:Nat} {tb:List Rws} (hn:U[n]?=some tb) {k:Nat} {l:Rws} (hk:tb[k]?=some l):k+1<gM:=by
 have h1:=h tb (List.mem_of_getElem? hn)
 have h2:=(List.getElem?_eq_some_iff.1 hk).1
 omega
theorem gF_RnB {σ σ':Sto} (hU:Fits U) (hσ:∀k,k≠0->σ (k+1000)=gF e1 e2 e3 m U P k) (hσ':∀k,k≠0->σ' (k+1000)=gF e1 e2 e3 m U P k) {k:Nat} {bd:Body} (hk:k≠0) (hb:(gF e1 e2 e3 m U P k).body=some bd):RnB σ σ' bd bd:=by
 rcases fam_ids k with rfl | ⟨n,rfl⟩ | ⟨n,k,hk2,rfl⟩
 ·exact absurd rfl hk
 ·rw [gF,famF_r] at hb
  obtain ⟨tb,h1,rfl⟩:=gRow_body hb
  refine .nest rfl (gE_one n tb) fun j x x' hj hj'=>?_
  obtain rfl:=Option.some.inj (hj.symm.trans hj')
  rw [gE_get] at hj
  obtain ⟨l,h2,rfl⟩:=Option.map_eq_some_iff.1 hj
  have h3:=hU.get h1 h2
  have e:gF e1 e2 e3 m U P (clI n j)=⟨1,some (.row e3 m l)⟩:=by rw [gF,famF_s _ h3];exact gCell_pre h1 h2
  exact .row (by rw [hσ _ (clI_pos _ _),e]) (by rw [hσ' _ (clI_pos _ _),e])
 ·rw [gF,famF_s _ hk2] at hb
  obtain ⟨tb,l,_,_,rfl⟩:=gCell_body hb
  exact .row _ _ _
theorem AV.kn_mono {p q:Nat->Bool} (h:∀k,p k=true->q k=true) {x:AV} (hx:x.kn p=true):x.kn q=true:=by
 cases x with
 | own id _ _=>exact h _ hx
 | el id _ _ _=>exact h _ hx
 | row id _ _ _=>exact h _ hx
 | ref id _ _=>exact h _ hx
 | _=>exact hx
theorem Body.kn_mono {p q:Nat->Bool} (h:∀k,p k=true->q k=true) {b:Body} (hb:b.kn p=true):b.kn q=true:=by
 cases b with
 | box t cs=>exact List.all_eq_true.2 fun x hx=>AV.kn_mono h (List.all_eq_true.1 hb x hx)
 | nest t els=>exact List.all_eq_true.2 fun x hx=>AV.kn_mono h (List.all_eq_true.1 hb x hx)
 | _=>exact hb
theorem lkT_kn {p:Nat->Bool} {T:List (Nat × AV)} (h:(T.all fun q=>q.2.kn p)=true) (t:Nat):(lkT T t).kn p=true:=by
 induction T with
 | nil=>rfl
 | cons q T ih =>
  rw [List.all_cons,Bool.and_eq_true] at h
  show (cond (Nat.beq t q.1) q.2 (lkT T t)).kn p=true
  cases Nat.beq t q.1
  ·exact ih h.2
  ·exact h.1
def bodyKn (p:Nat->Bool) (sb:SB):Bool:=match sb.body with | some bd=>bd.kn p | none=>true
theorem lkB_kn {p:Nat->Bool} {B:List (Nat × SB)} (h:(B.all fun q=>bodyKn p q.2)=true) {id:Nat} {bd:Body} (hb:(lkB B id).body=some bd):bd.kn p=true:=by
 induction B with
 | nil=>cases hb
 | cons q B ih =>
  rw [List.all_cons,Bool.and_eq_true] at h
  replace hb:(cond (Nat.beq id q.1) q.2 (lkB B id)).body=some bd:=hb
  cases hq:Nat.beq id q.1
  ·rw [hq] at hb;exact ih h.2 hb
  ·rw [hq] at hb
   have h1:=h.1
   rw [bodyKn,show q.2.body=some bd from hb] at h1
   exact h1
def lo (k:Nat):Bool:=Nat.ble k 1000
theorem lo_r {n k:Nat} (h:lo k=true):(!Nat.beq k (rwI n+1000))=true:=by
 have h1:=Nat.le_of_ble_eq_true h
 have h2:0<rwI n:=Nat.pos_of_ne_zero (rwI_pos n)
 rw [beq_f (by omega)];rfl
theorem lo_s {n i k:Nat} (h:lo k=true):(!Nat.beq k (clI n i+1000))=true:=by
 have h1:=Nat.le_of_ble_eq_true h
 have h2:0<clI n i:=Nat.pos_of_ne_zero (clI_pos n i)
 rw [beq_f (by omega)];rfl
theorem gF_kn {p:Nat->Bool} (hU:Fits U) (hp:∀n k,k+1<gM->p (clI n k+1000)=true) {k:Nat} {bd:Body} (hk:k≠0) (hb:(gF e1 e2 e3 m U P k).body=some bd):bd.kn p=true:=by
 rcases fam_ids k with rfl | ⟨n,rfl⟩ | ⟨n,k,hk2,rfl⟩
 ·exact absurd rfl hk
 ·rw [gF,famF_r] at hb
  obtain ⟨tb,h1,rfl⟩:=gRow_body hb
  refine List.all_eq_true.2 fun x hx=>?_
  obtain ⟨j,hj⟩:=List.getElem?_of_mem hx
  rw [gE_get] at hj
  obtain ⟨l,h2,rfl⟩:=Option.map_eq_some_iff.1 hj
  exact hp n j (hU.get h1 h2)
 ·rw [gF,famF_s _ hk2] at hb
  obtain ⟨tb,l,_,_,rfl⟩:=gCell_body hb
  rfl
theorem lkF_cases {B B':List (Nat × SB)} {f f':Nat->SB} {k:Nat} (h1:k<1000->lkB B' k=lkB B k) (h2:∀j,k=j+1000->f' j=f j):lkF B' f' k=lkF B f k:=by
  by_cases h:k<1000
  · rw [lkF_lo _ _ h,lkF_lo _ _ h];exact h1 h
  · obtain ⟨j,rfl⟩:∃j,k=j+1000:=⟨k - 1000,by omega⟩
    rw [lkF_hi,lkF_hi];exact h2 j rfl
theorem lkB_ne {p:Nat × SB} {B:List (Nat × SB)} {k:Nat} (h:k≠p.1):lkB (p::B) k=lkB B k:=by
 show cond (Nat.beq k p.1) _ _=_
 rw [beq_f h];rfl
theorem lkB_eq {i:Nat} {sb:SB} {B:List (Nat × SB)}:lkB ((i,sb)::B) i=sb:=by
 show cond (Nat.beq i i) _ _=_
 rw [beq_t];rfl
theorem ble_lo {i:Nat} (h:Nat.blt i 1000=true):i<1000:=Nat.le_of_ble_eq_true h
theorem Rt.push2 {N : Nat} {s : St} {T : List (Nat × AV)} {B : List (Nat × SB)} {l : Rws} {i L eL ei : Nat} (hi0 : Nat.blt i 1000 = true) (hL0 : Nat.blt L 1000 = true) (hiL : i ≠ L) (hU : Fits U) (hP : P.length + 1 < gM)
    (hL:s.σ L=⟨eL,some (.nest e2 (gE U.length P++[.row i ei 0 l.length]))⟩) (hi:s.σ i=⟨ei,some (.row e3 m l)⟩) (hF:∀k,s.σ (k+1000)=gF e1 e2 e3 m U P k)
    (hT:WkT s (lkF ((L,⟨1,some (.nest e2 (gE U.length P++[.row i 1 0 l.length]))⟩)::(i,⟨1,some (.row e3 m l)⟩)::B) (gF e1 e2 e3 m U P)) T)
    (hB:WkB s (lkF ((L,⟨1,some (.nest e2 (gE U.length P++[.row i 1 0 l.length]))⟩)::(i,⟨1,some (.row e3 m l)⟩)::B) (gF e1 e2 e3 m U P)) B)
    (hTk:(T.all fun q=>q.2.kn fun k=>!Nat.beq k i)=true) (hBk:(B.all fun q=>bodyKn (fun k=>!Nat.beq k i) q.2)=true) (hLB:lkB B L=⟨0,none⟩) (hiB:lkB B i=⟨0,none⟩) :
    Rt N s (fun _:Unit=>⟨lkT T,lkF ((L,⟨1,some (.nest e2 (gE U.length (P++[l])))⟩)::B) (gF e1 e2 e3 m U (P++[l]))⟩) (fun _=>True):=by
  have hi0:=ble_lo hi0
  have hL0:=ble_lo hL0
  have hUP:(U++[P])[U.length]?=some P:=by simp
  have hUPl:(U++[P++[l]])[U.length]?=some (P++[l]):=by simp
  have hj0:gF e1 e2 e3 m U P (clI U.length P.length)=⟨0,none⟩:=by
    rw [gF,famF_s _ hP,gCell,hUP,Option.bind_some,List.getElem?_eq_none (Nat.le_refl _)]
  have hj1:gF e1 e2 e3 m U (P++[l]) (clI U.length P.length)=⟨1,some (.row e3 m l)⟩:=by
    rw [gF,famF_s _ hP];exact gCell_some hUPl (by simp)
  have hsame:∀j,j≠clI U.length P.length->gF e1 e2 e3 m U (P++[l]) j=gF e1 e2 e3 m U P j:=fun j hj=>by
    refine famF_cell (n:=U.length) (i:=P.length) rfl (fun _=>rfl) (fun n k hk h=>?_) hj
    rw [gCell,gCell]
    congr 1
    by_cases h1:n<U.length
    · rw [List.getElem?_append_left h1,List.getElem?_append_left h1]
    by_cases h2:n=U.length
    · subst h2
      rw [hUP,hUPl,Option.bind_some,Option.bind_some]
      have hne:k≠P.length:=h.resolve_left (fun h=>h rfl)
      by_cases h3:k<P.length
      · rw [List.getElem?_append_left h3]
      · rw [List.getElem?_eq_none (by simp;omega),List.getElem?_eq_none (by omega)]
    · rw [List.getElem?_eq_none (by simp;omega),List.getElem?_eq_none (by simp;omega)]
  refine Rt.trans (Rt.wkU (WkF.to (l:=T) (b:=(L,⟨1,some (.nest e2 (gE U.length P++[.row i 1 0 l.length]))⟩)::(i,⟨1,some (.row e3 m l)⟩)::B) (f:=gF e1 e2 e3 m U P) hT ⟨?_,.row hi rfl,hB⟩ fun k bd' hb=>?_)) fun _ _=>?_
  · refine .nest hL (by simp) (fun j x hj=>?_) fun j x x' hj hj'=>?_
    · rw [List.getElem?_append] at hj
      split at hj
      · exact gE_one _ _ j x hj
      · obtain rfl:=List.mem_singleton.1 (List.mem_of_getElem? hj)
        rfl
    · rw [List.getElem?_append] at hj hj'
      split at hj
      · rename_i hlt
        rw [if_pos hlt] at hj'
        obtain rfl:=Option.some.inj (hj.symm.trans hj')
        rw [gE_get] at hj
        obtain ⟨l',h2,rfl⟩:=Option.map_eq_some_iff.1 hj
        have hlt2:=(List.getElem?_eq_some_iff.1 h2).1
        have e:gF e1 e2 e3 m U P (clI U.length j)=⟨1,some (.row e3 m l')⟩:=by
          rw [gF,famF_s _ (by omega)];exact gCell_some hUP h2
        exact .row (by rw [hF,e]) (by rw [lkF_hi,e])
      · rename_i hlt
        rw [if_neg hlt] at hj'
        obtain rfl:=List.mem_singleton.1 (List.mem_of_getElem? hj)
        obtain rfl:=List.mem_singleton.1 (List.mem_of_getElem? hj')
        exact .row hi (by rw [lkF_lo _ _ hi0,lkB_ne hiL,lkB_eq])
  · refine ⟨bd',by rw [hF];exact hb,?_⟩
    by_cases hk:k=0
    · subst hk
      obtain rfl:=Option.some.inj (show some (Body.nest e1 (tE U))=some bd' from hb)
      refine .nest rfl (tE_one U) fun j x x' hj hj'=>?_
      obtain rfl:=Option.some.inj (hj.symm.trans hj')
      rw [tE_get] at hj
      obtain ⟨tb,h2,rfl⟩:=Option.map_eq_some_iff.1 hj
      have e:gF e1 e2 e3 m U P (rwI j)=⟨1,some (.nest e2 (gE j tb))⟩:=by rw [gF,famF_r];exact gRow_some h2
      exact .rowN (by rw [hF,e]) (by rw [lkF_hi,e]) rfl
    · exact gF_RnB hU (fun k _=>hF k) (fun k _=>lkF_hi _ _ k) hk hb
  · have hsj:i≠clI U.length P.length+1000:=by omega
    have hLj:L≠clI U.length P.length+1000:=by omega
    refine Rt.move (i:=i) (j:=clI U.length P.length+1000) (L:=L) (e:=1) (ej:=0) (eL:=1) (tL:=e2) (bd:=.row e3 m l) (els:=gE U.length P++[.row i 1 0 l.length]) (els2:=gE U.length (P++[l])) hsj (Ne.symm hiL) hLj ?_ ?_ ?_ ?_ ?_ ?_ ?_ ?_ ?_ (lkT_kn hTk) ?_
    · rw [lkF_lo _ _ hi0,lkB_ne hiL,lkB_eq]
    · rw [lkF_hi,hj0]
    · rw [lkF_lo _ _ hL0,lkB_eq]
    · rw [gE_snoc];simp
    · intro k x x2 hk hk'
      rw [gE_snoc,List.getElem?_append] at hk'
      rw [List.getElem?_append] at hk
      split at hk
      · rename_i hlt
        rw [if_pos hlt] at hk'
        exact .inl (Option.some.inj (hk'.symm.trans hk))
      · rename_i hlt
        rw [if_neg hlt] at hk'
        exact .inr ⟨0,l.length,List.mem_singleton.1 (List.mem_of_getElem? hk),List.mem_singleton.1 (List.mem_of_getElem? hk')⟩
    · rw [lkF_lo _ _ hL0,lkB_eq]
    · rw [lkF_hi,hj1]
    · rw [lkF_lo _ _ hi0,lkB_ne hiL,hiB]
    · intro k h1 h2 h3
      refine lkF_cases (fun _=>by rw [lkB_ne h3,lkB_ne h3,lkB_ne h1]) fun j hj=>hsame j fun e=>h2 (by rw [hj,e])
    · intro k bd hb
      by_cases hk:k<1000
      · rw [lkF_lo _ _ hk] at hb
        by_cases hkL:k=L
        · subst hkL
          rw [lkB_eq] at hb
          obtain rfl:=Option.some.inj hb
          refine List.all_eq_true.2 fun x hx=>?_
          obtain ⟨j,hj⟩:=List.getElem?_of_mem hx
          rw [gE_get] at hj
          obtain ⟨l',h2,rfl⟩:=Option.map_eq_some_iff.1 hj
          show (!Nat.beq (clI U.length j+1000) i)=true
          rw [beq_f (by omega)];rfl
        · rw [lkB_ne hkL] at hb
          exact lkB_kn hBk hb
      · obtain ⟨j,rfl⟩:∃j,k=j+1000:=⟨k - 1000,by omega⟩
        rw [lkF_hi] at hb
        by_cases hj:j=0
        · subst hj
          obtain rfl:=Option.some.inj (show some (Body.nest e1 (tE U))=some bd from hb)
          refine List.all_eq_true.2 fun x hx=>?_
          obtain ⟨j,hj⟩:=List.getElem?_of_mem hx
          rw [tE_get] at hj
          obtain ⟨tb,h2,rfl⟩:=Option.map_eq_some_iff.1 hj
          show (!Nat.beq (rwI j+1000) i)=true
          rw [beq_f (by omega)];rfl
        · exact gF_kn hU (fun n k _=>by rw [beq_f (by omega)];rfl) hj hb
theorem Rt.push1 {N : Nat} {s : St} {T : List (Nat × AV)} {B : List (Nat × SB)} {i ei eT : Nat} (hi0 : Nat.blt i 1000 = true) (hU : Fits U) (hP : P.length + 1 < gM)
    (hL:s.σ 1000=⟨eT,some (.nest e1 (tE U++[.row i ei 0 (gE U.length P).length]))⟩) (hi:s.σ i=⟨ei,some (.nest e2 (gE U.length P))⟩) (hF:∀k,k≠0->s.σ (k+1000)=gF e1 e2 e3 m U P k)
    (hT:WkT s (lkF ((i,⟨1,some (.nest e2 (gE U.length P))⟩)::B) (famF ⟨1,some (.nest e1 (tE U++[.row i 1 0 P.length]))⟩ (gRow e2 U) (gCell e3 m (U++[P])))) T)
    (hB:WkB s (lkF ((i,⟨1,some (.nest e2 (gE U.length P))⟩)::B) (famF ⟨1,some (.nest e1 (tE U++[.row i 1 0 P.length]))⟩ (gRow e2 U) (gCell e3 m (U++[P])))) B)
    (hTk:(T.all fun q=>q.2.kn fun k=>!Nat.beq k i)=true) (hBk:(B.all fun q=>bodyKn (fun k=>!Nat.beq k i) q.2)=true) (hiB:lkB B i=⟨0,none⟩) :
    Rt N s (fun _:Unit=>⟨lkT T,lkF B (gF e1 e2 e3 m (U++[P]) [])⟩) (fun _=>True):=by
  have hi0:=ble_lo hi0
  rw [gE_len] at hL
  have hUP:(U++[P])[U.length]?=some P:=by simp
  have hmid:∀k,k≠0->famF ⟨1,some (.nest e1 (tE U++[.row i 1 0 P.length]))⟩ (gRow e2 U) (gCell e3 m (U++[P])) k=gF e1 e2 e3 m U P k:=fun k hk=>by
    cases k with
    | zero=>exact absurd rfl hk
    | succ k=>rfl
  have hj0:gF e1 e2 e3 m U P (rwI U.length)=⟨0,none⟩:=by
    rw [gF,famF_r];exact gRow_none (List.getElem?_eq_none (Nat.le_refl _))
  have hj1:gF e1 e2 e3 m (U++[P]) [] (rwI U.length)=⟨1,some (.nest e2 (gE U.length P))⟩:=by
    rw [gF,famF_r];exact gRow_some hUP
  have hsame:∀j,j≠0->j≠rwI U.length->gF e1 e2 e3 m (U++[P]) [] j=gF e1 e2 e3 m U P j:=fun j h0 hj=>by
    rcases fam_ids j with rfl | ⟨n,rfl⟩ | ⟨n,k,hk,rfl⟩
    · exact absurd rfl h0
    · rw [gF,gF,famF_r,famF_r]
      have hn:n≠U.length:=fun e=>hj (by rw [e])
      rw [gRow,gRow]
      by_cases h1:n<U.length
      · rw [List.getElem?_append_left h1]
      · rw [List.getElem?_eq_none (by simp;omega),List.getElem?_eq_none (show U.length<=n by omega)]
    · rw [gF,gF,famF_s _ hk,famF_s _ hk,gCell_nil]
  refine Rt.trans (Rt.wkU (WkF.to (l:=T) (b:=(i,⟨1,some (.nest e2 (gE U.length P))⟩)::B) (f:=famF ⟨1,some (.nest e1 (tE U++[.row i 1 0 P.length]))⟩ (gRow e2 U) (gCell e3 m (U++[P]))) hT ⟨?_,hB⟩ fun k bd' hb=>?_)) fun _ _=>?_
  · refine .nest hi rfl (gE_one _ _) fun j x x' hj hj'=>?_
    obtain rfl:=Option.some.inj (hj.symm.trans hj')
    rw [gE_get] at hj
    obtain ⟨l',h2,rfl⟩:=Option.map_eq_some_iff.1 hj
    have hlt2:=(List.getElem?_eq_some_iff.1 h2).1
    have e:gF e1 e2 e3 m U P (clI U.length j)=⟨1,some (.row e3 m l')⟩:=by
      rw [gF,famF_s _ (by omega)];exact gCell_some hUP h2
    exact .row (by rw [hF _ (clI_pos _ _),e]) (by rw [lkF_hi,hmid _ (clI_pos _ _),e])
  · by_cases hk:k=0
    · subst hk
      obtain rfl:=Option.some.inj (show some (Body.nest e1 (tE U++[.row i 1 0 P.length]))=some bd' from hb)
      refine ⟨_,by rw [hL],.nest (by simp) (fun j x hj=>?_) fun j x x' hj hj'=>?_⟩
      · rw [List.getElem?_append] at hj
        split at hj
        · exact tE_one _ j x hj
        · obtain rfl:=List.mem_singleton.1 (List.mem_of_getElem? hj)
          rfl
      · rw [List.getElem?_append] at hj hj'
        split at hj
        · rename_i hlt
          rw [if_pos hlt] at hj'
          obtain rfl:=Option.some.inj (hj.symm.trans hj')
          rw [tE_get] at hj
          obtain ⟨tb,h2,rfl⟩:=Option.map_eq_some_iff.1 hj
          have e:gF e1 e2 e3 m U P (rwI j)=⟨1,some (.nest e2 (gE j tb))⟩:=by rw [gF,famF_r];exact gRow_some h2
          exact .rowN (by rw [hF _ (rwI_pos _),e]) (by rw [lkF_hi,hmid _ (rwI_pos _),e]) rfl
        · rename_i hlt
          rw [if_neg hlt] at hj'
          obtain rfl:=List.mem_singleton.1 (List.mem_of_getElem? hj)
          obtain rfl:=List.mem_singleton.1 (List.mem_of_getElem? hj')
          exact .rowN hi (by rw [lkF_lo _ _ hi0,lkB_eq]) rfl
    · rw [hmid k hk] at hb
      exact ⟨bd',by rw [hF k hk];exact hb,gF_RnB hU hF (fun k hk=>by rw [lkF_hi,hmid k hk]) hk hb⟩
  · refine Rt.move (i:=i) (j:=rwI U.length+1000) (L:=1000) (e:=1) (ej:=0) (eL:=1) (tL:=e1) (bd:=.nest e2 (gE U.length P)) (els:=tE U++[.row i 1 0 P.length]) (els2:=tE (U++[P])) (by omega) (by omega) (by have:=rwI_pos U.length;omega) ?_ ?_ ?_ ?_ ?_ ?_ ?_ ?_ ?_ (lkT_kn hTk) ?_
    · rw [lkF_lo _ _ hi0,lkB_eq]
    · rw [lkF_hi,hmid _ (rwI_pos _),hj0]
    · exact (lkF_hi _ _ 0).trans rfl
    · rw [tE_snoc];simp
    · intro k x x2 hk hk'
      rw [tE_snoc,List.getElem?_append] at hk'
      rw [List.getElem?_append] at hk
      split at hk
      · rename_i hlt
        rw [if_pos hlt] at hk'
        exact .inl (Option.some.inj (hk'.symm.trans hk))
      · rename_i hlt
        rw [if_neg hlt] at hk'
        exact .inr ⟨0,P.length,List.mem_singleton.1 (List.mem_of_getElem? hk),List.mem_singleton.1 (List.mem_of_getElem? hk')⟩
    · exact (lkF_hi _ _ 0).trans rfl
    · rw [lkF_hi,hj1]
    · rw [lkF_lo _ _ hi0,hiB]
    · intro k h1 h2 h3
      refine lkF_cases (fun _=>by rw [lkB_ne h1]) fun j hj=>?_
      have hj0:j≠0:=fun e=>h3 (by rw [hj,e])
      rw [hmid j hj0]
      exact hsame j hj0 fun e=>h2 (by rw [hj,e])
    · intro k bd hb
      by_cases hk:k<1000
      · rw [lkF_lo _ _ hk] at hb
        exact lkB_kn hBk hb
      · obtain ⟨j,rfl⟩:∃j,k=j+1000:=⟨k - 1000,by omega⟩
        rw [lkF_hi] at hb
        by_cases hj:j=0
        · subst hj
          obtain rfl:=Option.some.inj (show some (Body.nest e1 (tE (U++[P])))=some bd from hb)
          refine List.all_eq_true.2 fun x hx=>?_
          obtain ⟨j,hj⟩:=List.getElem?_of_mem hx
          rw [tE_get] at hj
          obtain ⟨tb,h2,rfl⟩:=Option.map_eq_some_iff.1 hj
          show (!Nat.beq (rwI j+1000) i)=true
          rw [beq_f (by omega)];rfl
        · have hU' : Fits (U ++ [P]) := fun tb htb => by
            rcases List.mem_append.1 htb with h | h
            · exact hU tb h
            · obtain rfl:=List.mem_singleton.1 h
              exact hP
          exact gF_kn hU' (fun n k _=>by rw [beq_f (by omega)];rfl) hj hb
end
end Go.Proofs.YtoaibdbehlcnfaaGreat.Sm
end
section
namespace Go.Proofs.YtoaibdbehlcnfaaGreat
open Go.RowKit Go.WideShapes Go.ChangeShapes Go.Deep
def Readable {α:Type} (P:Program) (t:TypeId) (R:Rep α):Prop :=
 ∀(H:Type) (enc:TypeId × Value->H) (w:World) (base:Nat) (spare:Nat->Bool) (held:Bool) (fuel:Nat) (cs:List Value) (x:DataW H × List MemPlace),
  DataW.trod enc P w base spare held fuel t cs=some x->∃a:α,R.rel w (fun b=>b<w.heap.size) a cs
theorem all2_collect {α:Type} {r:α->List Value->Prop} {n:Nat} (hn:∀x c,r x c->c.length=n) (w:World) (b off:Nat):∀(len:Nat),
  (∀i,i<len->∃x c,r x c/\∀j u,c[j]?=some u->w.cell? ⟨b,off+(i*n+j),none⟩=some u) ->
  ∃xs cells,xs.length=len/\All2 r xs cells/\∀j u,cells[j]?=some u->w.cell? ⟨b,off+j,none⟩=some u
 | 0,_=>⟨[],[],rfl,rfl,by simp⟩
 | len+1,h=>by
  obtain ⟨xs,cells,h1,h2,h3⟩:=all2_collect hn w b off len fun i hi=>h i (by omega)
  obtain ⟨x,c,hr,hc⟩:=h len (by omega)
  refine ⟨xs++[x],cells++c,by simp [h1],h2.snoc hr,fun j u hu=>?_⟩
  have hl:=h2.length hn
  rw [h1] at hl
  rw [List.getElem?_append] at hu
  split at hu
  ·exact h3 j u hu
  ·have:=hc _ u hu
   rwa [hl,show off+(len*n+(j - len*n))=off+j by omega] at this
theorem Readable.slice {α:Type} {P:Program} {t e:TypeId} {R:Rep α} (hR:Readable P e R) (ht:P.underlying t=some (.slice e)) (hn:P.cellsOf e=R.n) (h0:0<R.n):Readable P t R.slice:=by
  intro H enc w base spare held fuel cs x hx
  rcases open_slice ht hx with ⟨rfl,_⟩ | ⟨a,len,cap,m,n,D,Pl,rfl,_,hlc,hcm,hm,_,hel⟩
  · exact ⟨[],_,rfl,SliceAt.nil _ _ _⟩
  · have hlm:len<=m:=by rw [hm];split <;> omega
    by_cases hp:0<len
    · have hspot : a = ⟨a.block, a.off, none⟩ /\ a.block < w.heap.size := by
        obtain ⟨cs',hc,_⟩:=hel 0 (by omega)
        obtain ⟨_,hl,hat⟩:=World.cells?_some hc
        have h1:=hat 0 (by rw [hn];exact h0)
        have e:(a.add (0*P.cellsOf e)).add 0=a:=by simp [Addr.add]
        rw [e,List.getElem?_eq_getElem (by rw [hl,hn];exact h0)] at h1
        refine ⟨?_,World.block_lt_of_cell? w a h1⟩
        unfold World.cell? at h1
        split at h1
        · split at h1
          · cases h1
          · rename_i hs
            obtain ⟨ab,ao,asp⟩:=a
            cases asp with
            | none=>rfl
            | some k=>simp at hs
        · cases h1
      obtain ⟨xs,cells,h1,h2,h3⟩:=all2_collect (r:=R.rel w (fun b=>b<w.heap.size)) (n:=R.n) (fun _ _=>R.len) w a.block a.off len fun i hi=>by
        obtain ⟨cs',hc,ht'⟩:=hel i (by omega)
        obtain ⟨y,hy⟩:=hR H enc w base spare held n cs' _ ht'
        obtain ⟨_,hl,hat⟩:=World.cells?_some hc
        refine ⟨y,cs',hy,fun j u hu=>?_⟩
        have hj:j<P.cellsOf e:=by have:=(List.getElem?_eq_some_iff.1 hu).1;omega
        have:=hat j hj
        rw [hu,hn,hspot.1] at this
        rw [show ((⟨a.block,a.off,none⟩:Addr).add (i*R.n)).add j=⟨a.block,a.off+(i*R.n+j),none⟩ by
          unfold Addr.add
          by_cases h1:i*R.n=0 <;> by_cases h2:j=0 <;> simp [h1,h2,Nat.add_assoc]] at this
        exact this
      exact ⟨xs,_,rfl,some a,cap,by rw [h1],by omega,hcm,fun _=>⟨a.block,a.off,by rw [<- hspot.1],hspot.2,hspot.2,cells,h2,h3⟩⟩
    · obtain rfl:len=0:=by omega
      exact ⟨[],_,rfl,some a,cap,rfl,Nat.zero_le _,hcm,fun h=>absurd h (Nat.lt_irrefl _)⟩
theorem struct_part {P:Program} {t:TypeId} {fs:Array Field} (ht:P.underlying t=some (.struct fs)) {H:Type} {enc:TypeId × Value->H} {w:World} {base:Nat} {spare:Nat->Bool} {held:Bool} {fuel:Nat} {cs:List Value} {x:DataW H × List MemPlace}
  (hx:DataW.trod enc P w base spare held fuel t cs=some x):∃m,cs.length=P.cellsOf t/\∀(j ty off n:Nat),(fs[j]?).map (fun f=>(f.type,f.offset))=some (ty,off)->P.cellsOf ty=n ->
   ∃y,DataW.trod enc P w base spare held m ty ((cs.drop off).take n)=some y:=by
 obtain ⟨xs,n,_,_,hl,hxs,hf⟩:=DataW.trod_struct ht hx
 refine ⟨n,hl,fun j ty off k hj hk=>?_⟩
 cases hfj:fs[j]? with
 | none=>rw [hfj] at hj;cases hj
 | some f =>
  rw [hfj] at hj
  simp only [Option.map_some,Option.some.injEq,Prod.mk.injEq] at hj
  have h:=hf j f hfj
  rw [hj.1,hj.2,hk] at h
  have hlt:j<xs.length:=by rw [hxs];exact (Array.getElem?_eq_some_iff.1 hfj).1
  exact ⟨xs[j],by rw [h,List.getElem?_eq_getElem hlt]⟩
theorem wf_u64 {n:Int} (h:(Lit.int .u64 n).wf=true):∃x:UInt64,n=x.toNat:=by
 have h:0<=n/\n<=18446744073709551615:=by simpa [Lit.wf,IntKind.min,IntKind.max,IntKind.signed,IntKind.bits] using h
 exact ⟨UInt64.ofNat n.toNat,by rw [<- u64_small (by omega)];omega⟩
theorem wf_u8 {n:Int} (h:(Lit.int .u8 n).wf=true):∃x:UInt8,n=x.toNat:=by
 have h:0<=n/\n<=255:=by simpa [Lit.wf,IntKind.min,IntKind.max,IntKind.signed,IntKind.bits] using h
 exact ⟨UInt8.ofNat n.toNat,by rw [UInt8.toNat_ofNat'];omega⟩
section
variable {H : Type} {enc : TypeId × Value -> H} {P : Program}
theorem post_of_below {f:Func} {s:ChangeSpec} {apart fresh handsOn again:Bool} {W W':World} {args:Array Value} {v:Value} {ds gs:List (DataW H)} {before pa pv:List MemPlace}
  (hW:DataW.Whole enc P f.params.toList s.vars apart W args.toList ds gs before)
  (hres:∀(b:Nat) (sp:Nat->Bool) (hd:Bool),DataW.TrodAll enc P W' b sp hd f.resultTypes.toList (v.resultList f.resultTypes.size) (s.fn H (ds++gs)).results [])
  (hargs:∀sp:Nat->Bool,(∀p∈before,sp p.block=true)->DataW.TrodAll enc P W' 0 sp true f.params.toList args.toList (s.fn H (ds++gs)).args pa)
  (hvars:∀sp:Nat->Bool,(∀p∈before,sp p.block=true)->DataW.TrodVars enc P W' sp s.vars (s.fn H (ds++gs)).vars pv)
  (hps:before=pa++pv) (hb:Below W.heap.size W W')
  (hok:∀(j:Nat) (t:TypeId) (r:Value),f.resultTypes[j]?=some t->(v.resultList f.resultTypes.size)[j]?=some r->Value.okWide P W' .any 0 t r) :
  s.post enc P f apart fresh handsOn again W args v W':=by
 have hlt:∀p∈before,p.block<W.heap.size:=fun p hp=>hW.lt p hp
 have hold:∀p∈before,(fun b=>decide (b<W.heap.size)) p.block=true:=fun p hp=>by simpa using hlt p hp
 refine ⟨ds,gs,before,[],pa,pv,hW,hres _ _ _,hargs _ hold,hvars _ hold,World.keptBut_mono (fun p hp=>⟨hp,?_⟩) (hb.frame (·∈before)),fun _=>?_⟩
 ·rw [hps,List.mem_append] at hp
  exact Or.inr hp
 ·obtain ⟨_,_,_,_,_,hz,hn⟩:=hW
  refine ⟨hok,_,_,([]++pa)++pv,⟨[]++pa,pv,trodAll_append (hargs _ (fun _ _=>rfl)) (hres _ _ _),hvars _ (fun _ _=>rfl),rfl,?_,?_⟩,?_⟩
  ·intro b off hp
   have hin:MemPlace.cell b off∈before:=by rw [hps];simpa using hp
   rw [hb.frozen (hlt _ hin)]
   exact hz b off hin
  ·intro ha
   have:=hn ha
   rw [hps] at this
   simpa using this
  ·intro p hp _
   rw [hps]
   simpa using hp
theorem all_stays (hl:laidOutB P=true) {W W':World} (hb:Below W.heap.size W W') {sp':Nat->Bool}:∀{ts:List TypeId} {vs:List Value} {ds:List (DataW H)} {ps:List MemPlace},
  (∀t∈ts,P.readableRec t=true/\t<P.types.size)->DataW.TrodAll enc P W 0 (fun _=>true) true ts vs ds ps->(∀p∈ps,p.block<W.heap.size)->(∀p∈ps,sp' p.block=true)->DataW.TrodAll enc P W' 0 sp' true ts vs ds ps
 | [],[],[],_,_,h,_,_=>h
 | t::ts,v::vs,d::ds,ps,hr,h,hlt,hs=>by
  obtain ⟨p,q,h1,h2,rfl⟩:=h
  refine ⟨p,q,WideElems.Trod_stays hl (hr t (by simp)).1 (hr t (by simp)).2 h1 (fun x hx=>hb.same (hlt x (by simp [hx]))) (fun x hx=>hs x (by simp [hx])),?_,rfl⟩
  exact all_stays hl hb (fun t ht=>hr t (by simp [ht])) h2 (fun x hx=>hlt x (by simp [hx])) (fun x hx=>hs x (by simp [hx]))
end
theorem law_post {H:Type} {enc:TypeId × Value->H} {P:Program} {F:Nat} {fn:Func} {s:ChangeSpec} (hl:laidOutB P=true) (hv:s.vars=[]) (hrt:∃b,fn.resultTypes = #[b]/\P.underlying b=some .bool)
  (hr:∀t∈fn.params.toList,P.readableRec t=true/\t<P.types.size) {W:World} {args:Array Value} {ds gs:List (DataW H)} {before:List MemPlace}
  (hs:(s.fn H ds).results=[.lit (.bool true)]/\(s.fn H ds).args=ds/\(s.fn H ds).vars=[])
  (hW:DataW.Whole enc P fn.params.toList s.vars false W args.toList ds gs before)
  (hcalls:Calls P F args W fun e W'=>e = .returned (.bool true)/\Kp No W W') :
  Calls P F args W fun e W'=>∃v,e = .returned v/\s.post enc P fn false true false false W args v W':=by
 refine hcalls.mono fun e W' ⟨he,hk⟩=>⟨.bool true,he,?_⟩
 have hb:Below W.heap.size W W':=hk.below (Nat.le_refl _) fun k _ h=>h
 have hlt:∀p∈before,p.block<W.heap.size:=fun p hp=>hW.lt p hp
 have hW0:=hW
 obtain ⟨p,q,hA,hV,hpq,hz,hn⟩:=hW0
 rw [hv] at hV
 obtain ⟨rfl,rfl⟩:=trodVars_none hV
 obtain ⟨b,hb1,hb2⟩:=hrt
 rw [List.append_nil] at hpq
 subst hpq
 refine post_of_below (pa:=before) (pv:=[]) hW (fun _ _ _=>?_) (fun sp hsp=>?_) (fun _ _=>?_) (by simp) hb ?_
 ·rw [List.append_nil,hs.1,hb1]
  exact trodAll_mk1 (shut_bool hb2 _)
 ·rw [List.append_nil,hs.2.1]
  exact all_stays hl hb hr hA hlt hsp
 ·rw [List.append_nil,hs.2.2,hv]
  rfl
 ·rw [hb1]
  intro j t r hj hr
  cases j with
  | zero =>
   have e1:b=t:=by simpa using hj
   have e2:Value.bool true=r:=by simpa [Value.resultList] using hr
   rw [<- e1,<- e2]
   exact okWide_bool_mk hb2 _
  | succ j=>simp at hj
end Go.Proofs.YtoaibdbehlcnfaaGreat
end
section
namespace Go.Proofs.YtoaibdbehlcnfaaGreat
open Go.RowKit Go.WideShapes Go.ChangeShapes Go.Deep
end Go.Proofs.YtoaibdbehlcnfaaGreat
end
section
section
namespace Go.Proofs.YtoaibdbehlcnfaaGreat.Sm
open Go.RowKit
structure Enc {α:Type} (R:Rep α) (enc:α->List AV):Prop where
 len:∀x,(enc x).length=R.n
 one:∀x,∀y∈enc x,y.one=true
 to:∀{W:World} {F:Nat->Prop} {x:α} {cs:List Value},R.rel W F x cs->∀(j:Nat) (y:AV) (u:Value),(enc x)[j]?=some y->cs[j]?=some u->PRel W F y u
 of:∀{W:World} {F:Nat->Prop} {x:α} {cs:List Value},cs.length=R.n->(∀(j:Nat) (y:AV) (u:Value),(enc x)[j]?=some y->cs[j]?=some u->PRel W F y u)->R.rel W F x cs
theorem all2_build {α:Type} {r:α->List Value->Prop} {g:Nat->List Value}:∀(xs:List α) (k0:Nat),(∀(k:Nat) (x:α),xs[k]?=some x->r x (g (k0+k)))->All2 r xs ((List.range' k0 xs.length).flatMap g)
 | [],k0,_=>rfl
 | x::xs,k0,h=>by
  refine ⟨g k0,(List.range' (k0+1) xs.length).flatMap g,by simp [List.range'_succ],h 0 x rfl,all2_build xs (k0+1) fun k y hk=>?_⟩
  have:=h (k+1) y (by simpa using hk)
  rwa [show k0+(k+1)=k0+1+k by omega] at this
theorem flatMap_get {g:Nat->List Value} {n:Nat} (hg:∀k,(g k).length=n):∀(m k0 j:Nat) (u:Value),((List.range' k0 m).flatMap g)[j]?=some u->∃k i,k<m/\i<n/\j=k*n+i/\(g (k0+k))[i]?=some u
 | 0,k0,j,u,h=>by simp at h
 | m+1,k0,j,u,h=>by
  rw [List.range'_succ,List.flatMap_cons,List.getElem?_append,hg] at h
  split at h
  ·rename_i hlt
   exact ⟨0,j,by omega,hlt,by simp,by simpa using h⟩
  ·rename_i hge
   obtain ⟨k,i,h1,h2,h3,h4⟩:=flatMap_get hg m (k0+1) (j - n) u h
   refine ⟨k+1,i,by omega,h2,by rw [Nat.add_mul];omega,?_⟩
   rwa [show k0+(k+1)=k0+1+k by omega]
section
variable {α : Type} {R : Rep α} {enc : α -> List AV} {W : World} {F : Nat -> Prop} {xs : List α} {v : Value}
theorem Enc.sl (E:Enc R enc) (h:SliceAt R W F xs v):PRel W F (.sl (xs.map enc)) v:=by
  obtain ⟨A,c,rfl,hc,hm,h3⟩:=h
  have hlen:(xs.map enc).length=xs.length:=by simp
  have get:∀(k:Nat) (cs:List AV),(xs.map enc)[k]?=some cs->∃x,xs[k]?=some x/\enc x=cs:=fun k cs hk=>by
    rw [List.getElem?_map] at hk
    cases hx:xs[k]? with
    | none=>rw [hx] at hk;cases hk
    | some x=>rw [hx] at hk;exact ⟨x,rfl,by simpa using hk⟩
  by_cases hp:0<xs.length
  · obtain ⟨b,off,rfl,hF,hb,cells,ha,hcell⟩:=h3 hp
    have key := PRel.sl (W := W) (F := F) (xs.map enc) (some ⟨b, off, none⟩) c R.n b off (fun k j => cells.getD (k * R.n + j) undef) (by simpa using hc) hm (fun _ => ⟨rfl, hF, hb⟩) (fun k cs hk => by
        obtain ⟨x,_,rfl⟩:=get k cs hk
        exact E.len x) (fun k cs j y hk hj=>by
        obtain ⟨x,_,rfl⟩:=get k cs hk
        exact E.one x y (List.mem_of_getElem? hj)) (fun k cs j y hk hj=>?_) (fun k cs j y hk hj=>?_)
    · rw [hlen] at key
      exact key
    · obtain ⟨x,hx,rfl⟩:=get k cs hk
      obtain ⟨cs,hr,hg⟩:=ha.get (fun _ _=>R.len) hx
      obtain ⟨u,hu⟩:∃u,cs[j]?=some u:=⟨_,List.getElem?_eq_getElem (by rw [R.len hr,<- E.len x];exact (List.getElem?_eq_some_iff.1 hj).1)⟩
      have:cells.getD (k*R.n+j) undef=u:=by rw [List.getD_eq_getElem?_getD,hg j u hu];rfl
      rw [this]
      exact E.to hr j y u hj hu
    · obtain ⟨x,hx,rfl⟩:=get k cs hk
      obtain ⟨cs,hr,hg⟩:=ha.get (fun _ _=>R.len) hx
      obtain ⟨u,hu⟩:∃u,cs[j]?=some u:=⟨_,List.getElem?_eq_getElem (by rw [R.len hr,<- E.len x];exact (List.getElem?_eq_some_iff.1 hj).1)⟩
      have:cells.getD (k*R.n+j) undef=u:=by rw [List.getD_eq_getElem?_getD,hg j u hu];rfl
      rw [this]
      exact hcell _ u (hg j u hu)
  · obtain rfl:xs=[]:=List.eq_nil_of_length_eq_zero (by omega)
    exact .sl [] A c 0 0 0 (fun _ _=>undef) (Nat.zero_le _) hm (fun h=>absurd h (Nat.lt_irrefl _)) (by simp) (by simp) (by simp) (by simp)
theorem Enc.slice_of (E:Enc R enc) (h0:0<R.n) (h:PRel W F (.sl (xs.map enc)) v):SliceAt R W F xs v:=by
 cases h with
 | sl _ A c m b off cell hc hm hA hl hone hr hw =>
  have hlen:(xs.map enc).length=xs.length:=by simp
  rw [hlen] at hc hA ⊢
  refine ⟨A,c,rfl,hc,hm,fun hp=>?_⟩
  obtain ⟨rfl,hF,hb⟩:=hA hp
  have get:∀(k:Nat) (x:α),xs[k]?=some x->(xs.map enc)[k]?=some (enc x):=fun k x hk=>by rw [List.getElem?_map,hk];rfl
  have hmn:m=R.n:=by
   have h1:=get 0 _ (List.getElem?_eq_getElem hp)
   rw [<- hl 0 _ h1,E.len]
  subst hmn
  let g:Nat->List Value:=fun k=>(List.range R.n).map (cell k)
  have hg:∀k,(g k).length=R.n:=fun k=>by simp [g]
  have gget:∀(k i:Nat),i<R.n->(g k)[i]?=some (cell k i):=fun k i hi=>by simp [g,hi]
  refine ⟨b,off,rfl,hF,hb,(List.range' 0 xs.length).flatMap g,all2_build xs 0 fun k x hk=>?_,fun j u hj=>?_⟩
  ·rw [Nat.zero_add]
   refine E.of (hg k) fun j y u hj hu=>?_
   have hlt:j<R.n:=by rw [<- E.len x];exact (List.getElem?_eq_some_iff.1 hj).1
   rw [gget k j hlt] at hu
   obtain rfl:=Option.some.inj hu
   exact hr k _ j y (get k x hk) hj
  ·obtain ⟨k,i,h1,h2,rfl,h4⟩:=flatMap_get hg _ _ _ _ hj
   rw [Nat.zero_add,gget k i h2] at h4
   obtain rfl:=Option.some.inj h4
   obtain ⟨x,hx⟩:∃x,xs[k]?=some x:=⟨_,List.getElem?_eq_getElem h1⟩
   exact hw k _ i _ (get k x hx) (List.getElem?_eq_getElem (by rw [E.len];exact h2))
theorem Enc.slice (E:Enc R enc) (h0:0<R.n):Enc R.slice (fun l=>[.sl (l.map enc)]):=by
 refine ⟨fun _=>rfl,fun x y hy=>?_,fun {W F x cs} hr j y u hj hu=>?_,fun {W F x cs} hl hp=>?_⟩
 ·obtain rfl:=List.mem_singleton.1 hy
  rfl
 ·obtain ⟨v,rfl,hs⟩:=hr
  cases j with
  | zero =>
   obtain rfl:=Option.some.inj hj
   obtain rfl:=Option.some.inj hu
   exact E.sl hs
  | succ j=>simp at hj
 ·obtain ⟨u,rfl⟩:=List.length_eq_one_iff.1 (show cs.length=1 from hl)
  exact ⟨u,rfl,E.slice_of h0 (hp 0 _ u rfl rfl)⟩
end
section
variable {P : Program} {f : FuncId} {x y : AV} {r : AV}
end
end Go.Proofs.YtoaibdbehlcnfaaGreat.Sm
end
section
namespace Go.Proofs.YtoaibdbehlcnfaaGreat.Sm
open Go.RowKit Go.WideShapes Go.ChangeShapes Go.Deep
structure PWs (W:World) (F:Nat->Prop) (xs:List AV) (cs:List Value):Prop where
 len:cs.length=xs.length
 one:∀(j:Nat) (x:AV),xs[j]?=some x->x.one=true
 rel:∀(j:Nat) (x:AV) (v:Value),xs[j]?=some x->cs[j]?=some v->PRel W F x v
theorem PRel.one_cell {W:World} {F:Nat->Prop} {x:AV} {v:Value} (h:PRel W F x v) (h1:x.one=true):v.oneCell'=true:=by
 cases h <;> first | rfl | exact h1 | (simp [AV.one] at h1;done)
theorem PRel.widen {W:World} {F F':Nat->Prop} {x:AV} {v:Value} (h:PRel W F x v) (hF:∀b,b<W.heap.size->F b->F' b):PRel W F' x v:=h.keep (fun _ _ _=>rfl) fun b hb hlt=>hF b hlt hb
theorem PWs.single {W:World} {F:Nat->Prop} {x:AV} {v:Value} (h:PRel W F x v) (h1:x.one=true):PWs W F [x] [v]:=by
 refine ⟨rfl,fun j y hj=>?_,fun j y u hj hu=>?_⟩
 ·cases j with
  | zero=>obtain rfl:=Option.some.inj hj;exact h1
  | succ j=>simp at hj
 ·cases j with
  | zero=>obtain rfl:=Option.some.inj hj;obtain rfl:=Option.some.inj hu;exact h
  | succ j=>simp at hj
theorem PWs.nil {W:World} {F:Nat->Prop} {cs:List Value} {n:Nat} (h:cs.length=n):PWs W F [] (cs.drop n) :=
 ⟨by simp [h],fun j x hj=>by simp at hj,fun j x v hj _=>by simp at hj⟩
theorem PWs.join {W:World} {F:Nat->Prop} {xs ys:List AV} {cs:List Value} {o n:Nat} (h:PWs W F xs ((cs.drop o).take n)) (hn:xs.length=n) (h':PWs W F ys (cs.drop (o+n))):PWs W F (xs++ys) (cs.drop o):=by
 have hl:=h.len
 have hl':=h'.len
 rw [List.length_take,List.length_drop] at hl
 rw [List.length_drop] at hl'
 refine ⟨by simp only [List.length_drop,List.length_append];omega,fun j x hj=>?_,fun j x v hj hv=>?_⟩
 ·rw [List.getElem?_append] at hj
  split at hj
  ·exact h.one j x hj
  ·exact h'.one _ x hj
 ·rw [List.getElem?_append] at hj
  split at hj
  ·rename_i hlt
   refine h.rel j x v hj ?_
   rw [List.getElem?_take,if_pos (by omega)]
   exact hv
  ·rename_i hge
   refine h'.rel _ x v hj ?_
   rw [List.getElem?_drop] at hv ⊢
   rw [<- hv]
   congr 1
   omega
theorem PWs.all {W:World} {F:Nat->Prop} {xs:List AV} {cs:List Value} (h:PWs W F xs (cs.drop 0)):PWs W F xs cs:=by rwa [List.drop_zero] at h
structure ReadA {α:Type} (P:Program) (t:TypeId) (n:Nat) (enc:α->List AV):Prop where
 len:∀a,(enc a).length=n
 one:∀a,∀y∈enc a,y.one=true
 read:∀(H:Type) (e:TypeId × Value->H) (w:World) (base:Nat) (spare:Nat->Bool) (held:Bool) (fuel:Nat) (cs:List Value) (x:DataW H × List MemPlace),
  DataW.trod e P w base spare held fuel t cs=some x->∃a:α,PWs w (fun b=>b<w.heap.size) (enc a) cs
def avR {α:Type} (n:Nat) (enc:α->List AV) (hn:∀a,(enc a).length=n) (h1:∀a,∀y∈enc a,y.one=true):Rep α where
 n:=n
 rel:=fun W F x cs=>PWs W F (enc x) cs
 len:=fun h=>by rw [h.len];exact hn _
 one:=fun {w F x cs} h u hu=>by
  obtain ⟨j,hj⟩:=List.getElem?_of_mem hu
  obtain ⟨y,hy⟩:∃y,(enc x)[j]?=some y:=⟨_,List.getElem?_eq_getElem (by rw [<- h.len];exact (List.getElem?_eq_some_iff.1 hj).1)⟩
  exact (h.rel j y u hy hj).one_cell (h.one j y hy)
 keep:=fun h hk=>⟨h.len,h.one,fun j x v hj hv=>(h.rel j x v hj hv).keep hk fun b hb _=>hb⟩
 mono:=fun h hF=>⟨h.len,h.one,fun j x v hj hv=>(h.rel j x v hj hv).widen hF⟩
theorem avR_enc {α:Type} {n:Nat} {enc:α->List AV} (hn:∀a,(enc a).length=n) (h1:∀a,∀y∈enc a,y.one=true):Enc (avR n enc hn h1) enc :=
 ⟨hn,h1,fun h j y u hj hu=>h.rel j y u hj hu,fun {W F x cs} hl h=>⟨by rw [hl,hn];rfl,fun j y hj=>h1 x y (List.mem_of_getElem? hj),fun j y v hj hv=>h j y v hj hv⟩⟩
section
variable {P : Program} {t : TypeId}
theorem ReadA.readable {α:Type} {n:Nat} {enc:α->List AV} (h:ReadA P t n enc):Readable P t (avR n enc h.len h.one):=fun H e w base spare held fuel cs x hx=>h.read H e w base spare held fuel cs x hx
theorem ReadA.of {α:Type} {R:Rep α} {enc:α->List AV} (E:Enc R enc) (h:Readable P t R):ReadA P t R.n enc :=
 ⟨E.len,E.one,fun H e w base spare held fuel cs x hx=>by
  obtain ⟨a,ha⟩:=h H e w base spare held fuel cs x hx
  exact ⟨a,by rw [R.len ha,E.len],fun j y hj=>E.one a y (List.mem_of_getElem? hj),fun j y v hj hv=>E.to ha j y v hj hv⟩⟩
theorem ReadA.slice {α:Type} {e:TypeId} {n:Nat} {enc:α->List AV} (h:ReadA P e n enc) (ht:P.underlying t=some (.slice e)) (hn:P.cellsOf e=n) (h0:0<n):ReadA P t 1 (fun l:List α=>[.sl (l.map enc)]) :=
 .of (R:=(avR n enc h.len h.one).slice) ((avR_enc h.len h.one).slice h0) (h.readable.slice ht hn h0)
theorem ReadA.u64 (ht:P.underlying t=some (.int .u64)):ReadA P t 1 (fun x:UInt64=>[.u x]) :=
  ⟨fun _=>rfl,fun _ y hy=>by obtain rfl:=List.mem_singleton.1 hy;rfl,fun H e w base spare held fuel cs x hx=>by
    obtain ⟨n,rfl,_,hw⟩:=DataW.trod_int ht hx
    obtain ⟨y,rfl⟩:=wf_u64 hw
    exact ⟨y,.single (.u _) rfl⟩⟩
theorem ReadA.u8 (ht:P.underlying t=some (.int .u8)):ReadA P t 1 (fun x:UInt8=>[.y x]) :=
  ⟨fun _=>rfl,fun _ y hy=>by obtain rfl:=List.mem_singleton.1 hy;rfl,fun H e w base spare held fuel cs x hx=>by
    obtain ⟨n,rfl,_,hw⟩:=DataW.trod_int ht hx
    obtain ⟨y,rfl⟩:=wf_u8 hw
    exact ⟨y,.single (.y _) rfl⟩⟩
theorem ReadA.bool (ht:P.underlying t=some .bool):ReadA P t 1 (fun x:Bool=>[.b x]) :=
  ⟨fun _=>rfl,fun _ y hy=>by obtain rfl:=List.mem_singleton.1 hy;rfl,fun H e w base spare held fuel cs x hx=>by
    obtain ⟨b,rfl,_⟩:=DataW.trod_bool ht hx
    exact ⟨b,.single (.b _) rfl⟩⟩
theorem ReadA.part {α:Type} {ty n off:Nat} {enc:α->List AV} (h:ReadA P ty n enc) {H:Type} {e:TypeId × Value->H} {w:World} {base:Nat} {spare:Nat->Bool} {held:Bool} {cs:List Value} {m:Nat}
  (hp:∃y,DataW.trod e P w base spare held m ty ((cs.drop off).take n)=some y):∃a:α,PWs w (fun b=>b<w.heap.size) (enc a) ((cs.drop off).take n):=by
 obtain ⟨y,hy⟩:=hp
 exact h.read H e w base spare held m _ y hy
theorem array_part {n:Nat} {el:TypeId} (ht:P.underlying t=some (.array n el)) {H:Type} {e:TypeId × Value->H} {w:World} {base:Nat} {spare:Nat->Bool} {held:Bool} {fuel:Nat} {cs:List Value} {x:DataW H × List MemPlace}
  (hx:DataW.trod e P w base spare held fuel t cs=some x):∃m,cs.length=P.cellsOf t/\∀(j off k:Nat),j<n->P.cellsOf el=k->j*k=off->∃y,DataW.trod e P w base spare held m el ((cs.drop off).take k)=some y:=by
 obtain ⟨xs,m,_,_,hl,hxs,hf⟩:=DataW.trod_array ht hx
 refine ⟨m,hl,fun j off k hj hk ho=>?_⟩
 have h:=hf j hj
 subst hk ho
 exact ⟨xs[j]'(by omega),by rw [h,List.getElem?_eq_getElem (by omega)]⟩
variable {H : Type} {e : TypeId × Value -> H} {W : World} {base b0 : Nat} {spare : Nat -> Bool} {held : Bool} {v : Value} {d : DataW H} {p : List MemPlace}
theorem ReadA.arg_struct {α:Type} {n:Nat} {enc:α->List AV} (h:ReadA P t n enc) {fs:Array Field} (ht:P.underlying t=some (.struct fs)) (ho:Value.okWide P W .any b0 t v) (hd:DataW.Trod e P W base spare held t v d p) :
  ∃a:α,PRel W (fun b=>b<W.heap.size) (.agg (enc a)) v:=by
 obtain ⟨cs,rfl,hs⟩:=okWide_struct ht ho
 obtain ⟨fuel,hf⟩:=hd
 obtain ⟨a,ha⟩:=h.read H e W base spare held fuel _ _ hf
 have hc:(Value.cells (.agg cs)).toList=cs.toList:=by simp [Value.cells]
 rw [hc] at ha
 refine ⟨a,?_⟩
 have:=PRel.agg (W:=W) (F:=fun b=>b<W.heap.size) (enc a) cs.toList ha.len ha.one ha.rel
 simpa using this
theorem ReadA.arg_one {α:Type} {g:α->AV} (h:ReadA P t 1 (fun a=>[g a])) (hc:v.cells.toList=[v]) (hd:DataW.Trod e P W base spare held t v d p) :
  ∃a:α,PRel W (fun b=>b<W.heap.size) (g a) v:=by
 obtain ⟨fuel,hf⟩:=hd
 obtain ⟨a,ha⟩:=h.read H e W base spare held fuel _ _ hf
 rw [hc] at ha
 exact ⟨a,ha.rel 0 _ v rfl rfl⟩
theorem ReadA.arg_int {α:Type} {k:IntKind} {g:α->AV} (h:ReadA P t 1 (fun a=>[g a])) (ht:P.underlying t=some (.int k)) (ho:Value.okWide P W .any b0 t v) (hd:DataW.Trod e P W base spare held t v d p) :
  ∃a:α,PRel W (fun b=>b<W.heap.size) (g a) v:=by
 obtain ⟨n,rfl⟩:=okWide_int ht ho
 exact h.arg_one (by simp [Value.cells]) hd
theorem PDoes.law {f:FuncId} {args:List AV} {vs:List Value} (h:PDoes P f args (.b true)) (hl:vs.length=args.length)
  (hv:∀(j:Nat) (x:AV) (v:Value),args[j]?=some x->vs[j]?=some v->PRel W (fun b=>b<W.heap.size) x v):Calls P f vs.toArray W fun e W'=>e = .returned (.bool true)/\Kp No W W':=by
 refine (h.calls W (fun b=>b<W.heap.size) vs hl hv fun _ hb=>hb).mono ?_
 rintro e W' ⟨v,rfl,hk,hr⟩
 cases hr
 exact ⟨rfl,hk⟩
end
theorem i64_next {k n:Nat} (h:k<n) (hn:n<=9223372036854775807):AV.i .i64 (IntKind.i64.wrap ((k:Int)+1)) = .i .i64 ((k+1:Nat):Int):=by
 rw [show IntKind.i64.wrap ((k:Int)+1)=(k:Int)+1 by rw [IntKind.wrap_i64];omega]
 rfl
end Go.Proofs.YtoaibdbehlcnfaaGreat.Sm
end
end
section
namespace Go.Proofs.YtoaibdbehlcnfaaGreat.Sm
open Go.RowKit
def tyT:TT:=[(1,⟨.func,1,8,[.raw .nilFunc]⟩),
 (2,⟨(.int .i64),1,8,[.i .i64 0]⟩),
 (3,⟨(.int .i64),1,8,[.i .i64 0]⟩),
 (4,⟨.bool,1,1,[.b false]⟩),
 (5,⟨(.int .u8),1,1,[.y 0]⟩),
 (6,⟨(.int .u8),1,1,[.y 0]⟩),
 (7,⟨(.strct [(2,0),(3,1),(4,2),(6,3)]),4,24,[.i .i64 0,.i .i64 0,.b false,.y 0]⟩),
 (8,⟨(.strct [(2,0),(3,1),(4,2),(6,3)]),4,24,[.i .i64 0,.i .i64 0,.b false,.y 0]⟩),
 (9,⟨.str,1,16,[.s []]⟩),
 (10,⟨.str,1,16,[.s []]⟩),
 (11,⟨.str,1,16,[.s []]⟩),
 (12,⟨(.int .u64),1,8,[.u 0]⟩),
 (13,⟨(.strct [(9,0),(12,1)]),2,24,[.s [],.u 0]⟩),
 (14,⟨(.strct [(9,0),(12,1)]),2,24,[.s [],.u 0]⟩),
 (15,⟨.ptr,1,8,[.raw (.pointer none)]⟩),
 (16,⟨.ptr,1,8,[.raw (.pointer none)]⟩),
 (17,⟨.ptr,1,8,[.raw (.pointer none)]⟩),
 (18,⟨(.strct [(17,0)]),1,8,[.raw (.pointer none)]⟩),
 (19,⟨(.strct [(17,0)]),1,8,[.raw (.pointer none)]⟩),
 (21,⟨(.int .i32),1,4,[.i .i32 0]⟩),
 (22,⟨(.slice 115),1,24,[.raw (.slice none 0 0)]⟩),
 (23,⟨(.strct [(22,0)]),1,24,[.raw (.slice none 0 0)]⟩),
 (24,⟨(.strct [(22,0)]),1,24,[.raw (.slice none 0 0)]⟩),
 (25,⟨(.slice 158),1,24,[.raw (.slice none 0 0)]⟩),
 (26,⟨(.slice 160),1,24,[.raw (.slice none 0 0)]⟩),
 (27,⟨(.strct [(3,0),(25,1),(26,2)]),3,56,[.i .i64 0,.raw (.slice none 0 0),.raw (.slice none 0 0)]⟩),
 (28,⟨(.strct [(3,0),(25,1),(26,2)]),3,56,[.i .i64 0,.raw (.slice none 0 0),.raw (.slice none 0 0)]⟩),
 (29,⟨(.slice 47),1,24,[.raw (.slice none 0 0)]⟩),
 (30,⟨(.strct [(24,0),(28,1),(29,4)]),5,104,[.raw (.slice none 0 0),.i .i64 0,.raw (.slice none 0 0),.raw (.slice none 0 0),.raw (.slice none 0 0)]⟩),
 (31,⟨(.strct [(24,0),(28,1),(29,4)]),5,104,[.raw (.slice none 0 0),.i .i64 0,.raw (.slice none 0 0),.raw (.slice none 0 0),.raw (.slice none 0 0)]⟩),
 (32,⟨(.int .u64),1,8,[.u 0]⟩),
 (33,⟨(.strct [(32,0),(32,1)]),2,16,[.u 0,.u 0]⟩),
 (34,⟨(.strct [(32,0),(32,1)]),2,16,[.u 0,.u 0]⟩),
 (35,⟨(.strct [(34,0),(34,2)]),4,32,[.u 0,.u 0,.u 0,.u 0]⟩),
 (36,⟨(.strct [(34,0),(34,2)]),4,32,[.u 0,.u 0,.u 0,.u 0]⟩),
 (37,⟨(.strct [(3,0),(3,1),(3,2),(36,3)]),7,56,[.i .i64 0,.i .i64 0,.i .i64 0,.u 0,.u 0,.u 0,.u 0]⟩),
 (38,⟨(.strct [(3,0),(3,1),(3,2),(36,3)]),7,56,[.i .i64 0,.i .i64 0,.i .i64 0,.u 0,.u 0,.u 0,.u 0]⟩),
 (39,⟨(.strct [(3,0),(36,1),(38,5)]),12,96,[.i .i64 0,.u 0,.u 0,.u 0,.u 0,.i .i64 0,.i .i64 0,.i .i64 0,.u 0,.u 0,.u 0,.u 0]⟩),
 (40,⟨(.strct [(3,0),(36,1),(38,5)]),12,96,[.i .i64 0,.u 0,.u 0,.u 0,.u 0,.i .i64 0,.i .i64 0,.i .i64 0,.u 0,.u 0,.u 0,.u 0]⟩),
 (41,⟨(.strct [(3,0),(3,1)]),2,16,[.i .i64 0,.i .i64 0]⟩),
 (42,⟨(.strct [(3,0),(3,1)]),2,16,[.i .i64 0,.i .i64 0]⟩),
 (43,⟨.func,1,8,[.raw .nilFunc]⟩),
 (44,⟨(.int .i64),1,8,[.i .i64 0]⟩),
 (45,⟨.func,1,8,[.raw .nilFunc]⟩),
 (46,⟨.func,1,8,[.raw .nilFunc]⟩),
 (47,⟨(.slice 48),1,24,[.raw (.slice none 0 0)]⟩),
 (48,⟨(.slice 40),1,24,[.raw (.slice none 0 0)]⟩),
 (49,⟨.func,1,8,[.raw .nilFunc]⟩),
 (50,⟨.func,1,8,[.raw .nilFunc]⟩),
 (51,⟨(.slice 78),1,24,[.raw (.slice none 0 0)]⟩),
 (52,⟨(.strct [(3,0),(42,1),(51,3)]),4,48,[.i .i64 0,.i .i64 0,.i .i64 0,.raw (.slice none 0 0)]⟩),
 (53,⟨(.strct [(3,0),(42,1),(51,3)]),4,48,[.i .i64 0,.i .i64 0,.i .i64 0,.raw (.slice none 0 0)]⟩),
 (54,⟨(.strct [(3,0),(44,1),(3,2),(42,3),(34,5),(53,7)]),11,104,[.i .i64 0,.i .i64 0,.i .i64 0,.i .i64 0,.i .i64 0,.u 0,.u 0,.i .i64 0,.i .i64 0,.i .i64 0,.raw (.slice none 0 0)]⟩),
 (55,⟨(.strct [(3,0),(44,1),(3,2),(42,3),(34,5),(53,7)]),11,104,[.i .i64 0,.i .i64 0,.i .i64 0,.i .i64 0,.i .i64 0,.u 0,.u 0,.i .i64 0,.i .i64 0,.i .i64 0,.raw (.slice none 0 0)]⟩),
 (56,⟨.func,1,8,[.raw .nilFunc]⟩),
 (57,⟨(.slice 42),1,24,[.raw (.slice none 0 0)]⟩),
 (58,⟨.func,1,8,[.raw .nilFunc]⟩),
 (59,⟨.func,1,8,[.raw .nilFunc]⟩),
 (60,⟨(.slice 69),1,24,[.raw (.slice none 0 0)]⟩),
 (62,⟨.func,1,8,[.raw .nilFunc]⟩),
 (63,⟨.func,1,8,[.raw .nilFunc]⟩),
 (64,⟨.func,1,8,[.raw .nilFunc]⟩),
 (65,⟨.func,1,8,[.raw .nilFunc]⟩),
 (66,⟨.func,1,8,[.raw .nilFunc]⟩),
 (67,⟨.func,1,8,[.raw .nilFunc]⟩),
 (68,⟨(.strct [(42,0),(42,2),(34,4)]),6,48,[.i .i64 0,.i .i64 0,.i .i64 0,.i .i64 0,.u 0,.u 0]⟩),
 (69,⟨(.strct [(42,0),(42,2),(34,4)]),6,48,[.i .i64 0,.i .i64 0,.i .i64 0,.i .i64 0,.u 0,.u 0]⟩),
 (70,⟨.func,1,8,[.raw .nilFunc]⟩),
 (72,⟨.func,1,8,[.raw .nilFunc]⟩),
 (73,⟨.func,1,8,[.raw .nilFunc]⟩),
 (74,⟨(.slice 3),1,24,[.raw (.slice none 0 0)]⟩),
 (76,⟨.func,1,8,[.raw .nilFunc]⟩),
 (77,⟨(.strct [(3,0),(3,1),(3,2),(34,3)]),5,40,[.i .i64 0,.i .i64 0,.i .i64 0,.u 0,.u 0]⟩),
 (78,⟨(.strct [(3,0),(3,1),(3,2),(34,3)]),5,40,[.i .i64 0,.i .i64 0,.i .i64 0,.u 0,.u 0]⟩),
 (79,⟨.func,1,8,[.raw .nilFunc]⟩),
 (80,⟨.ptr,1,8,[.raw (.pointer none)]⟩),
 (82,⟨.func,1,8,[.raw .nilFunc]⟩),
 (84,⟨.func,1,8,[.raw .nilFunc]⟩),
 (85,⟨.func,1,8,[.raw .nilFunc]⟩),
 (86,⟨.func,1,8,[.raw .nilFunc]⟩),
 (87,⟨.func,1,8,[.raw .nilFunc]⟩),
 (88,⟨.func,1,8,[.raw .nilFunc]⟩),
 (89,⟨(.strct [(3,0),(3,1),(3,2),(4,3),(40,4)]),16,128,[.i .i64 0,.i .i64 0,.i .i64 0,.b false,.i .i64 0,.u 0,.u 0,.u 0,.u 0,.i .i64 0,.i .i64 0,.i .i64 0,.u 0,.u 0,.u 0,.u 0]⟩),
 (90,⟨(.strct [(3,0),(3,1),(3,2),(4,3),(40,4)]),16,128,[.i .i64 0,.i .i64 0,.i .i64 0,.b false,.i .i64 0,.u 0,.u 0,.u 0,.u 0,.i .i64 0,.i .i64 0,.i .i64 0,.u 0,.u 0,.u 0,.u 0]⟩),
 (91,⟨.func,1,8,[.raw .nilFunc]⟩),
 (92,⟨.func,1,8,[.raw .nilFunc]⟩),
 (93,⟨.func,1,8,[.raw .nilFunc]⟩),
 (94,⟨.func,1,8,[.raw .nilFunc]⟩),
 (95,⟨(.slice 96),1,24,[.raw (.slice none 0 0)]⟩),
 (96,⟨(.slice 90),1,24,[.raw (.slice none 0 0)]⟩),
 (97,⟨(.slice 102),1,24,[.raw (.slice none 0 0)]⟩),
 (98,⟨.func,1,8,[.raw .nilFunc]⟩),
 (99,⟨.func,1,8,[.raw .nilFunc]⟩),
 (100,⟨(.slice 36),1,24,[.raw (.slice none 0 0)]⟩),
 (101,⟨(.strct [(74,0),(34,1),(100,3)]),4,64,[.raw (.slice none 0 0),.u 0,.u 0,.raw (.slice none 0 0)]⟩),
 (102,⟨(.strct [(74,0),(34,1),(100,3)]),4,64,[.raw (.slice none 0 0),.u 0,.u 0,.raw (.slice none 0 0)]⟩),
 (103,⟨.func,1,8,[.raw .nilFunc]⟩),
 (104,⟨.func,1,8,[.raw .nilFunc]⟩),
 (106,⟨.func,1,8,[.raw .nilFunc]⟩),
 (107,⟨.func,1,8,[.raw .nilFunc]⟩),
 (108,⟨.func,1,8,[.raw .nilFunc]⟩),
 (110,⟨.func,1,8,[.raw .nilFunc]⟩),
 (111,⟨.func,1,8,[.raw .nilFunc]⟩),
 (112,⟨.func,1,8,[.raw .nilFunc]⟩),
 (113,⟨.func,1,8,[.raw .nilFunc]⟩),
 (114,⟨.func,1,8,[.raw .nilFunc]⟩),
 (115,⟨(.slice 126),1,24,[.raw (.slice none 0 0)]⟩),
 (116,⟨.func,1,8,[.raw .nilFunc]⟩),
 (118,⟨.func,1,8,[.raw .nilFunc]⟩),
 (120,⟨.func,1,8,[.raw .nilFunc]⟩),
 (122,⟨.func,1,8,[.raw .nilFunc]⟩),
 (123,⟨.func,1,8,[.raw .nilFunc]⟩),
 (124,⟨.func,1,8,[.raw .nilFunc]⟩),
 (125,⟨(.strct [(3,0),(3,1),(3,2),(3,3),(3,4)]),5,40,[.i .i64 0,.i .i64 0,.i .i64 0,.i .i64 0,.i .i64 0]⟩),
 (126,⟨(.strct [(3,0),(3,1),(3,2),(3,3),(3,4)]),5,40,[.i .i64 0,.i .i64 0,.i .i64 0,.i .i64 0,.i .i64 0]⟩),
 (127,⟨.ptr,1,8,[.raw (.pointer none)]⟩),
 (129,⟨.func,1,8,[.raw .nilFunc]⟩),
 (130,⟨.func,1,8,[.raw .nilFunc]⟩),
 (131,⟨.func,1,8,[.raw .nilFunc]⟩),
 (132,⟨.func,1,8,[.raw .nilFunc]⟩),
 (134,⟨.func,1,8,[.raw .nilFunc]⟩),
 (135,⟨.func,1,8,[.raw .nilFunc]⟩),
 (136,⟨.func,1,8,[.raw .nilFunc]⟩),
 (137,⟨.func,1,8,[.raw .nilFunc]⟩),
 (138,⟨(.slice 74),1,24,[.raw (.slice none 0 0)]⟩),
 (139,⟨.func,1,8,[.raw .nilFunc]⟩),
 (140,⟨.func,1,8,[.raw .nilFunc]⟩),
 (141,⟨.func,1,8,[.raw .nilFunc]⟩),
 (142,⟨.func,1,8,[.raw .nilFunc]⟩),
 (143,⟨.map,1,8,[.raw (.map none)]⟩),
 (144,⟨(.strct [(143,0),(3,1),(97,2)]),3,40,[.raw (.map none),.i .i64 0,.raw (.slice none 0 0)]⟩),
 (145,⟨(.strct [(143,0),(3,1),(97,2)]),3,40,[.raw (.map none),.i .i64 0,.raw (.slice none 0 0)]⟩),
 (147,⟨.func,1,8,[.raw .nilFunc]⟩),
 (148,⟨.ptr,1,8,[.raw (.pointer none)]⟩),
 (149,⟨.func,1,8,[.raw .nilFunc]⟩),
 (150,⟨(.strct [(31,0),(3,5),(145,6),(148,9)]),10,160,[.raw (.slice none 0 0),.i .i64 0,.raw (.slice none 0 0),.raw (.slice none 0 0),.raw (.slice none 0 0),.i .i64 0,.raw (.map none),.i .i64 0,.raw (.slice none 0 0),.raw (.pointer none)]⟩),
 (151,⟨(.strct [(31,0),(3,5),(145,6),(148,9)]),10,160,[.raw (.slice none 0 0),.i .i64 0,.raw (.slice none 0 0),.raw (.slice none 0 0),.raw (.slice none 0 0),.i .i64 0,.raw (.map none),.i .i64 0,.raw (.slice none 0 0),.raw (.pointer none)]⟩),
 (153,⟨.func,1,8,[.raw .nilFunc]⟩),
 (154,⟨(.slice 5),1,24,[.raw (.slice none 0 0)]⟩),
 (155,⟨.func,1,8,[.raw .nilFunc]⟩),
 (156,⟨.func,1,8,[.raw .nilFunc]⟩),
 (157,⟨.func,1,8,[.raw .nilFunc]⟩),
 (158,⟨(.arr 2 3),2,16,[.i .i64 0,.i .i64 0]⟩),
 (159,⟨(.strct [(3,0),(3,1),(3,2)]),3,24,[.i .i64 0,.i .i64 0,.i .i64 0]⟩),
 (160,⟨(.strct [(3,0),(3,1),(3,2)]),3,24,[.i .i64 0,.i .i64 0,.i .i64 0]⟩),
 (161,⟨.func,1,8,[.raw .nilFunc]⟩),
 (162,⟨.func,1,8,[.raw .nilFunc]⟩),
 (163,⟨.func,1,8,[.raw .nilFunc]⟩),
 (164,⟨.func,1,8,[.raw .nilFunc]⟩),
 (165,⟨.func,1,8,[.raw .nilFunc]⟩),
 (166,⟨(.strct [(31,0),(31,5),(3,10)]),11,216,[.raw (.slice none 0 0),.i .i64 0,.raw (.slice none 0 0),.raw (.slice none 0 0),.raw (.slice none 0 0),.raw (.slice none 0 0),.i .i64 0,.raw (.slice none 0 0),.raw (.slice none 0 0),.raw (.slice none 0 0),.i .i64 0]⟩),
 (167,⟨(.strct [(31,0),(31,5),(3,10)]),11,216,[.raw (.slice none 0 0),.i .i64 0,.raw (.slice none 0 0),.raw (.slice none 0 0),.raw (.slice none 0 0),.raw (.slice none 0 0),.i .i64 0,.raw (.slice none 0 0),.raw (.slice none 0 0),.raw (.slice none 0 0),.i .i64 0]⟩),
 (168,⟨.func,1,8,[.raw .nilFunc]⟩),
 (169,⟨.func,1,8,[.raw .nilFunc]⟩),
 (170,⟨.func,1,8,[.raw .nilFunc]⟩),
 (171,⟨.func,1,8,[.raw .nilFunc]⟩),
 (172,⟨.func,1,8,[.raw .nilFunc]⟩),
 (173,⟨.func,1,8,[.raw .nilFunc]⟩),
 (174,⟨.ptr,1,8,[.raw (.pointer none)]⟩),
 (175,⟨.func,1,8,[.raw .nilFunc]⟩),
 (176,⟨(.strct [(174,0)]),1,8,[.raw (.pointer none)]⟩),
 (177,⟨(.strct [(174,0)]),1,8,[.raw (.pointer none)]⟩),
 (178,⟨.func,1,8,[.raw .nilFunc]⟩),
 (179,⟨.func,1,8,[.raw .nilFunc]⟩),
 (180,⟨.map,1,8,[.raw (.map none)]⟩),
 (181,⟨(.strct [(100,0),(180,1)]),2,32,[.raw (.slice none 0 0),.raw (.map none)]⟩),
 (182,⟨(.strct [(100,0),(180,1)]),2,32,[.raw (.slice none 0 0),.raw (.map none)]⟩),
 (184,⟨.func,1,8,[.raw .nilFunc]⟩),
 (185,⟨.func,1,8,[.raw .nilFunc]⟩),
 (186,⟨.func,1,8,[.raw .nilFunc]⟩),
 (187,⟨.func,1,8,[.raw .nilFunc]⟩),
 (188,⟨.func,1,8,[.raw .nilFunc]⟩),
 (189,⟨.func,1,8,[.raw .nilFunc]⟩),
 (190,⟨.func,1,8,[.raw .nilFunc]⟩),
 (191,⟨.func,1,8,[.raw .nilFunc]⟩),
 (192,⟨.func,1,8,[.raw .nilFunc]⟩),
 (194,⟨.func,1,8,[.raw .nilFunc]⟩),
 (195,⟨.func,1,8,[.raw .nilFunc]⟩),
 (196,⟨.func,1,8,[.raw .nilFunc]⟩),
 (197,⟨.func,1,8,[.raw .nilFunc]⟩),
 (198,⟨.func,1,8,[.raw .nilFunc]⟩),
 (199,⟨.func,1,8,[.raw .nilFunc]⟩),
 (200,⟨.func,1,8,[.raw .nilFunc]⟩),
 (201,⟨(.strct [(31,0),(3,5),(97,6)]),7,136,[.raw (.slice none 0 0),.i .i64 0,.raw (.slice none 0 0),.raw (.slice none 0 0),.raw (.slice none 0 0),.i .i64 0,.raw (.slice none 0 0)]⟩),
 (202,⟨(.strct [(31,0),(3,5),(97,6)]),7,136,[.raw (.slice none 0 0),.i .i64 0,.raw (.slice none 0 0),.raw (.slice none 0 0),.raw (.slice none 0 0),.i .i64 0,.raw (.slice none 0 0)]⟩),
 (203,⟨.map,1,8,[.raw (.map none)]⟩),
 (205,⟨.func,1,8,[.raw .nilFunc]⟩),
 (206,⟨.func,1,8,[.raw .nilFunc]⟩),
 (207,⟨.func,1,8,[.raw .nilFunc]⟩),
 (208,⟨.func,1,8,[.raw .nilFunc]⟩),
 (209,⟨.func,1,8,[.raw .nilFunc]⟩),
 (210,⟨.func,1,8,[.raw .nilFunc]⟩),
 (211,⟨.func,1,8,[.raw .nilFunc]⟩),
 (212,⟨.func,1,8,[.raw .nilFunc]⟩),
 (213,⟨.func,1,8,[.raw .nilFunc]⟩),
 (214,⟨.func,1,8,[.raw .nilFunc]⟩),
 (215,⟨.func,1,8,[.raw .nilFunc]⟩),
 (216,⟨(.int .u64),1,8,[.u 0]⟩),
 (217,⟨.ptr,1,8,[.raw (.pointer none)]⟩),
 (218,⟨(.arr 3 217),3,24,[.raw (.pointer none),.raw (.pointer none),.raw (.pointer none)]⟩),
 (219,⟨(.strct [(218,0),(74,3)]),4,48,[.raw (.pointer none),.raw (.pointer none),.raw (.pointer none),.raw (.slice none 0 0)]⟩),
 (220,⟨(.strct [(218,0),(74,3)]),4,48,[.raw (.pointer none),.raw (.pointer none),.raw (.pointer none),.raw (.slice none 0 0)]⟩),
 (221,⟨.map,1,8,[.raw (.map none)]⟩),
 (222,⟨(.strct [(220,0),(221,4)]),5,56,[.raw (.pointer none),.raw (.pointer none),.raw (.pointer none),.raw (.slice none 0 0),.raw (.map none)]⟩),
 (223,⟨(.strct [(220,0),(221,4)]),5,56,[.raw (.pointer none),.raw (.pointer none),.raw (.pointer none),.raw (.slice none 0 0),.raw (.map none)]⟩),
 (224,⟨.func,1,8,[.raw .nilFunc]⟩),
 (225,⟨.func,1,8,[.raw .nilFunc]⟩),
 (226,⟨(.strct [(36,0)]),4,32,[.u 0,.u 0,.u 0,.u 0]⟩),
 (227,⟨(.strct [(36,0)]),4,32,[.u 0,.u 0,.u 0,.u 0]⟩),
 (228,⟨.func,1,8,[.raw .nilFunc]⟩),
 (229,⟨.ptr,1,8,[.raw (.pointer none)]⟩),
 (230,⟨.func,1,8,[.raw .nilFunc]⟩),
 (231,⟨.func,1,8,[.raw .nilFunc]⟩),
 (232,⟨.func,1,8,[.raw .nilFunc]⟩),
 (233,⟨.func,1,8,[.raw .nilFunc]⟩),
 (234,⟨(.slice 232),1,24,[.raw (.slice none 0 0)]⟩),
 (235,⟨.func,1,8,[.raw .nilFunc]⟩),
 (236,⟨.func,1,8,[.raw .nilFunc]⟩),
 (237,⟨.func,1,8,[.raw .nilFunc]⟩),
 (238,⟨.func,1,8,[.raw .nilFunc]⟩),
 (239,⟨(.slice 31),1,24,[.raw (.slice none 0 0)]⟩),
 (240,⟨.func,1,8,[.raw .nilFunc]⟩),
 (242,⟨.func,1,8,[.raw .nilFunc]⟩),
 (243,⟨.func,1,8,[.raw .nilFunc]⟩),
 (244,⟨.func,1,8,[.raw .nilFunc]⟩),
 (245,⟨.func,1,8,[.raw .nilFunc]⟩),
 (246,⟨.func,1,8,[.raw .nilFunc]⟩),
 (247,⟨.func,1,8,[.raw .nilFunc]⟩),
 (248,⟨.func,1,8,[.raw .nilFunc]⟩),
 (249,⟨.func,1,8,[.raw .nilFunc]⟩),
 (250,⟨.func,1,8,[.raw .nilFunc]⟩),
 (251,⟨.ptr,1,8,[.raw (.pointer none)]⟩),
 (252,⟨(.strct [(31,0),(42,5),(34,7),(53,9)]),13,184,[.raw (.slice none 0 0),.i .i64 0,.raw (.slice none 0 0),.raw (.slice none 0 0),.raw (.slice none 0 0),.i .i64 0,.i .i64 0,.u 0,.u 0,.i .i64 0,.i .i64 0,.i .i64 0,.raw (.slice none 0 0)]⟩),
 (253,⟨(.strct [(31,0),(42,5),(34,7),(53,9)]),13,184,[.raw (.slice none 0 0),.i .i64 0,.raw (.slice none 0 0),.raw (.slice none 0 0),.raw (.slice none 0 0),.i .i64 0,.i .i64 0,.u 0,.u 0,.i .i64 0,.i .i64 0,.i .i64 0,.raw (.slice none 0 0)]⟩),
 (254,⟨.func,1,8,[.raw .nilFunc]⟩),
 (255,⟨.func,1,8,[.raw .nilFunc]⟩),
 (256,⟨.func,1,8,[.raw .nilFunc]⟩),
 (257,⟨.func,1,8,[.raw .nilFunc]⟩),
 (258,⟨.func,1,8,[.raw .nilFunc]⟩),
 (259,⟨.func,1,8,[.raw .nilFunc]⟩),
 (260,⟨.func,1,8,[.raw .nilFunc]⟩),
 (261,⟨.func,1,8,[.raw .nilFunc]⟩),
 (262,⟨.func,1,8,[.raw .nilFunc]⟩),
 (263,⟨.func,1,8,[.raw .nilFunc]⟩),
 (264,⟨.func,1,8,[.raw .nilFunc]⟩),
 (265,⟨.ptr,1,8,[.raw (.pointer none)]⟩),
 (266,⟨.func,1,8,[.raw .nilFunc]⟩),
 (267,⟨.func,1,8,[.raw .nilFunc]⟩),
 (268,⟨.func,1,8,[.raw .nilFunc]⟩),
 (269,⟨.func,1,8,[.raw .nilFunc]⟩),
 (270,⟨.func,1,8,[.raw .nilFunc]⟩),
 (271,⟨.func,1,8,[.raw .nilFunc]⟩),
 (272,⟨.func,1,8,[.raw .nilFunc]⟩),
 (273,⟨.func,1,8,[.raw .nilFunc]⟩),
 (274,⟨.func,1,8,[.raw .nilFunc]⟩),
 (275,⟨(.strct [(31,0),(51,5)]),6,128,[.raw (.slice none 0 0),.i .i64 0,.raw (.slice none 0 0),.raw (.slice none 0 0),.raw (.slice none 0 0),.raw (.slice none 0 0)]⟩),
 (276,⟨(.strct [(31,0),(51,5)]),6,128,[.raw (.slice none 0 0),.i .i64 0,.raw (.slice none 0 0),.raw (.slice none 0 0),.raw (.slice none 0 0),.raw (.slice none 0 0)]⟩),
 (277,⟨.func,1,8,[.raw .nilFunc]⟩),
 (279,⟨.func,1,8,[.raw .nilFunc]⟩),
 (280,⟨.func,1,8,[.raw .nilFunc]⟩),
 (281,⟨.func,1,8,[.raw .nilFunc]⟩),
 (282,⟨.func,1,8,[.raw .nilFunc]⟩),
 (283,⟨.func,1,8,[.raw .nilFunc]⟩),
 (285,⟨.func,1,8,[.raw .nilFunc]⟩),
 (286,⟨.func,1,8,[.raw .nilFunc]⟩),
 (287,⟨.func,1,8,[.raw .nilFunc]⟩),
 (288,⟨.func,1,8,[.raw .nilFunc]⟩),
 (289,⟨.func,1,8,[.raw .nilFunc]⟩),
 (290,⟨(.strct [(32,0),(32,1)]),2,16,[.u 0,.u 0]⟩),
 (291,⟨.func,1,8,[.raw .nilFunc]⟩),
 (292,⟨.func,1,8,[.raw .nilFunc]⟩),
 (293,⟨.func,1,8,[.raw .nilFunc]⟩),
 (294,⟨.func,1,8,[.raw .nilFunc]⟩),
 (296,⟨.func,1,8,[.raw .nilFunc]⟩),
 (297,⟨.func,1,8,[.raw .nilFunc]⟩),
 (299,⟨.func,1,8,[.raw .nilFunc]⟩),
 (301,⟨.func,1,8,[.raw .nilFunc]⟩),
 (302,⟨.func,1,8,[.raw .nilFunc]⟩),
 (303,⟨.func,1,8,[.raw .nilFunc]⟩),
 (304,⟨.func,1,8,[.raw .nilFunc]⟩),
 (305,⟨(.int .i64),1,8,[.i .i64 0]⟩),
 (307,⟨.func,1,8,[.raw .nilFunc]⟩),
 (308,⟨.func,1,8,[.raw .nilFunc]⟩),
 (309,⟨.func,1,8,[.raw .nilFunc]⟩),
 (310,⟨.func,1,8,[.raw .nilFunc]⟩),
 (311,⟨.func,1,8,[.raw .nilFunc]⟩),
 (312,⟨.func,1,8,[.raw .nilFunc]⟩),
 (313,⟨(.int .u32),1,4,[.i .u32 0]⟩),
 (314,⟨.func,1,8,[.raw .nilFunc]⟩),
 (315,⟨.func,1,8,[.raw .nilFunc]⟩),
 (316,⟨.func,1,8,[.raw .nilFunc]⟩),
 (317,⟨.func,1,8,[.raw .nilFunc]⟩),
 (318,⟨(.strct [(3,0),(36,1),(38,5)]),12,96,[.i .i64 0,.u 0,.u 0,.u 0,.u 0,.i .i64 0,.i .i64 0,.i .i64 0,.u 0,.u 0,.u 0,.u 0]⟩),
 (319,⟨.func,1,8,[.raw .nilFunc]⟩),
 (320,⟨.func,1,8,[.raw .nilFunc]⟩),
 (321,⟨.func,1,8,[.raw .nilFunc]⟩),
 (322,⟨.func,1,8,[.raw .nilFunc]⟩),
 (323,⟨.func,1,8,[.raw .nilFunc]⟩),
 (324,⟨.func,1,8,[.raw .nilFunc]⟩),
 (326,⟨.func,1,8,[.raw .nilFunc]⟩),
 (327,⟨.func,1,8,[.raw .nilFunc]⟩),
 (328,⟨.func,1,8,[.raw .nilFunc]⟩),
 (329,⟨.func,1,8,[.raw .nilFunc]⟩),
 (330,⟨.func,1,8,[.raw .nilFunc]⟩),
 (331,⟨.func,1,8,[.raw .nilFunc]⟩),
 (332,⟨.func,1,8,[.raw .nilFunc]⟩),
 (333,⟨.func,1,8,[.raw .nilFunc]⟩),
 (334,⟨.func,1,8,[.raw .nilFunc]⟩),
 (335,⟨.func,1,8,[.raw .nilFunc]⟩),
 (336,⟨.func,1,8,[.raw .nilFunc]⟩),
 (337,⟨.func,1,8,[.raw .nilFunc]⟩),
 (338,⟨(.int .u64),1,8,[.u 0]⟩),
 (339,⟨.func,1,8,[.raw .nilFunc]⟩),
 (340,⟨.func,1,8,[.raw .nilFunc]⟩),
 (341,⟨.func,1,8,[.raw .nilFunc]⟩),
 (342,⟨.ptr,1,8,[.raw (.pointer none)]⟩),
 (343,⟨.func,1,8,[.raw .nilFunc]⟩),
 (344,⟨.func,1,8,[.raw .nilFunc]⟩),
 (345,⟨.func,1,8,[.raw .nilFunc]⟩),
 (346,⟨(.slice 3),1,24,[.raw (.slice none 0 0)]⟩),
 (347,⟨.func,1,8,[.raw .nilFunc]⟩),
 (348,⟨.func,1,8,[.raw .nilFunc]⟩),
 (349,⟨.func,1,8,[.raw .nilFunc]⟩),
 (351,⟨.func,1,8,[.raw .nilFunc]⟩),
 (352,⟨.func,1,8,[.raw .nilFunc]⟩),
 (353,⟨.func,1,8,[.raw .nilFunc]⟩),
 (354,⟨.ptr,1,8,[.raw (.pointer none)]⟩),
 (356,⟨.func,1,8,[.raw .nilFunc]⟩),
 (357,⟨.func,1,8,[.raw .nilFunc]⟩),
 (358,⟨.func,1,8,[.raw .nilFunc]⟩),
 (359,⟨.func,1,8,[.raw .nilFunc]⟩),
 (360,⟨.func,1,8,[.raw .nilFunc]⟩),
 (361,⟨.func,1,8,[.raw .nilFunc]⟩),
 (362,⟨(.slice 100),1,24,[.raw (.slice none 0 0)]⟩),
 (363,⟨.func,1,8,[.raw .nilFunc]⟩),
 (364,⟨.func,1,8,[.raw .nilFunc]⟩),
 (365,⟨.func,1,8,[.raw .nilFunc]⟩),
 (366,⟨.ptr,1,8,[.raw (.pointer none)]⟩),
 (367,⟨(.strct [(48,0),(74,1)]),2,48,[.raw (.slice none 0 0),.raw (.slice none 0 0)]⟩),
 (368,⟨(.strct [(48,0),(74,1)]),2,48,[.raw (.slice none 0 0),.raw (.slice none 0 0)]⟩),
 (369,⟨.func,1,8,[.raw .nilFunc]⟩),
 (370,⟨.func,1,8,[.raw .nilFunc]⟩),
 (371,⟨.func,1,8,[.raw .nilFunc]⟩),
 (372,⟨.func,1,8,[.raw .nilFunc]⟩),
 (373,⟨.func,1,8,[.raw .nilFunc]⟩),
 (374,⟨.func,1,8,[.raw .nilFunc]⟩),
 (375,⟨.func,1,8,[.raw .nilFunc]⟩),
 (376,⟨.func,1,8,[.raw .nilFunc]⟩),
 (377,⟨.func,1,8,[.raw .nilFunc]⟩),
 (378,⟨.func,1,8,[.raw .nilFunc]⟩),
 (379,⟨.func,1,8,[.raw .nilFunc]⟩),
 (380,⟨.func,1,8,[.raw .nilFunc]⟩),
 (381,⟨.func,1,8,[.raw .nilFunc]⟩),
 (382,⟨.func,1,8,[.raw .nilFunc]⟩),
 (383,⟨.func,1,8,[.raw .nilFunc]⟩),
 (384,⟨.func,1,8,[.raw .nilFunc]⟩),
 (385,⟨.func,1,8,[.raw .nilFunc]⟩),
 (386,⟨(.strct [(17,0),(17,1),(17,2),(9,3)]),4,40,[.raw (.pointer none),.raw (.pointer none),.raw (.pointer none),.s []]⟩),
 (387,⟨(.strct [(17,0),(17,1),(17,2),(9,3)]),4,40,[.raw (.pointer none),.raw (.pointer none),.raw (.pointer none),.s []]⟩),
 (388,⟨(.arr 0 16),0,0,[]⟩),
 (389,⟨(.strct [(388,0)]),0,0,[]⟩),
 (390,⟨(.strct [(388,0)]),0,0,[]⟩),
 (391,⟨.func,1,8,[.raw .nilFunc]⟩),
 (392,⟨(.int .u8),1,1,[.y 0]⟩),
 (393,⟨(.int .u8),1,1,[.y 0]⟩),
 (394,⟨.func,1,8,[.raw .nilFunc]⟩),
 (395,⟨.ptr,1,8,[.raw (.pointer none)]⟩),
 (396,⟨(.int .i32),1,4,[.i .i32 0]⟩),
 (397,⟨(.int .i32),1,4,[.i .i32 0]⟩),
 (398,⟨(.strct [(12,0),(12,1),(313,2),(392,3),(5,4),(5,5),(393,6),(394,7),(395,8),(396,9),(397,10)]),11,48,[.u 0,.u 0,.i .u32 0,.y 0,.y 0,.y 0,.y 0,.raw .nilFunc,.raw (.pointer none),.i .i32 0,.i .i32 0]⟩),
 (399,⟨(.strct [(12,0),(12,1),(313,2),(392,3),(5,4),(5,5),(393,6),(394,7),(395,8),(396,9),(397,10)]),11,48,[.u 0,.u 0,.i .u32 0,.y 0,.y 0,.y 0,.y 0,.raw .nilFunc,.raw (.pointer none),.i .i32 0,.i .i32 0]⟩),
 (400,⟨.func,1,8,[.raw .nilFunc]⟩)]
theorem ty_ok:tabB Tryz.prog tyT=true:=by kernel_rfl
theorem mixed_ok:Tryz.prog.follows .mixedOrders=true:=by kernel_rfl
theorem wA {P:Program} {N:Nat} {Q:Exit->St->Prop} {s:St} {x y:Code} (h:AW P N x (thenA (AW P N y Q) Q) s):AW P N (.seq x y) Q s:=AW.seq h
theorem wB {P:Program} {N:Nat} {Q:Exit->St->Prop} {s:St} (h:Q .normal s):AW P N .skip Q s:=AW.skip h
theorem wC {P:Program} {N:Nat} {Q:Exit->St->Prop} {s:St} {id:Nat} {c:Code} (h:AW P N c (inBlkA id Q) s):AW P N (.block id c) Q s:=AW.block h
theorem wD {P:Program} {N:Nat} {ops:Array Oper} {rest:List Oper} {s:St} {K:St->List Eff->Prop} (h:RG P N ops rest s K):RG P N ops rest s K:=h
theorem wE {P:Program} {N:Nat} {ops:Array Oper} {s:St} {K:St->List Eff->Prop} (h:K s []):RG P N ops [] s K:=RG.nil h
theorem wF {P:Program} {N id:Nat} {ops:Array Oper} {Q:Exit->St->Prop} {s:St} (h:RG P N ops ops.toList s fun s' _=>Q .normal s'):AW P N (.region id ops false) Q s:=AW.text h
theorem wG {N id:Nat} {ops:Array Oper} {Q:Exit->St->Prop} {s:St} (h:RG Tryz.prog N ops ops.toList s fun s' Es=>orderOk ops (ops.toList.zip Es)=true/\Q .normal s'):AW Tryz.prog N (.region id ops true) Q s:=AW.draws mixed_ok h
theorem wH {N:Nat} {ops:Array Oper} {rest:List Oper} {s:St} {K:St->List Eff->Prop} {r:List Oper} {s':St} {Es:List Eff} (h:runF tyT 0 N ops 400 rest s []=(r,s',Es)) (hr:RG Tryz.prog N ops r s' (fun s'' Fs=>K s'' (Es.reverseAux Fs))):RG Tryz.prog N ops rest s K:=RG.runG ty_ok 0 400 h hr
theorem zI {N id : Nat} {ops : Array Oper} {Q : Exit -> St -> Prop} {s : St} {r : List Oper} {s' : St} {Es : List Eff} (h : runF tyT 0 N ops 400 ops.toList s [] = (r, s', Es)) (hr : RG Tryz.prog N ops r s' (fun s'' Fs => Q .normal s'')) : AW Tryz.prog N (.region id ops false) Q s := wF (wH h hr)
theorem zJ {N id : Nat} {ops : Array Oper} {Q : Exit -> St -> Prop} {s : St} {r : List Oper} {s' : St} {Es : List Eff} (h : runF tyT 0 N ops 400 ops.toList s [] = (r, s', Es)) (hr : RG Tryz.prog N ops r s' (fun s'' Fs => orderOk ops (ops.toList.zip (Es.reverseAux Fs)) = true /\ Q .normal s'')) : AW Tryz.prog N (.region id ops true) Q s := wG (wH h hr)
theorem zM {ops : Array Oper} {L : List (Oper × Eff)} {q : Prop} (h1 : orderOk ops L = true) (h2 : q) : orderOk ops L = true /\ q := ⟨h1, h2⟩
theorem jA {p q:Prop} (h:q) (t:q -> p:=by intro h;(repeat first|apply wA|apply wB|apply wC|apply wE|(apply zM;·kernel_rfl)|refine zI rfl ?_|refine zJ rfl ?_);exact h):p:=t h
theorem jB {p q:Prop} (h:q) (t:q -> p:=by intro h;(repeat first|apply wA|apply wB|apply wC|apply wE|(apply zM;·kernel_rfl));exact h):p:=t h
theorem jD {p:Prop} (t:p:=by repeat' (first|exact trivial|apply And.intro|exact dT ‹_›|exact dF ‹_›|exact dN ‹_›|exact dM ‹_›|exact dI ‹_›)):p:=t
theorem jW {p:Prop} (t:p:=by repeat(first|exact trivial|refine ⟨rI rfl rfl,?_⟩|refine ⟨rO rfl rfl rfl,?_⟩|refine ⟨rR rfl rfl rfl,?_⟩|refine ⟨bR rfl rfl,?_⟩|refine ⟨bS rfl rfl rfl,?_⟩)):p:=t
theorem jV {p:Prop} (t:p:=by repeat(first|exact trivial|refine ⟨rI rfl rfl,?_⟩|refine ⟨rI (i64_next (by assumption) (by first|assumption|decide)) rfl,?_⟩|refine ⟨rO rfl rfl rfl,?_⟩|refine ⟨rR rfl rfl rfl,?_⟩|refine ⟨bR rfl rfl,?_⟩|refine ⟨bS rfl rfl rfl,?_⟩)):p:=t
theorem jX {p:Prop} (t:p:=by first | omega | (simp only [IntKind.wrap_i64,Int.ofNat_eq_natCast] <;> omega) | rfl):p:=t
theorem rI {σ σ':Sto} {x y:AV} (e:x=y) (h:y.pu1=true):Rn σ σ' x y:=Rn.is e h
theorem rO {σ σ':Sto} {x:AV} {id ep ep' off:Nat} {bd bd':Body} (e:x = .own id ep off) (h:σ id=⟨ep,some bd⟩) (h':σ' id=⟨ep',some bd'⟩):Rn σ σ' x (.own id ep' off):=Rn.ownIs e h h'
theorem rR {σ σ':Sto} {x:AV} {id ep ep' off n t m:Nat} {els:List (List AV)} (e:x = .row id ep off n) (h:σ id=⟨ep,some (.row t m els)⟩) (h':σ' id=⟨ep',some (.row t m els)⟩):Rn σ σ' x (.row id ep' off n):=Rn.rowIs e h h'
theorem dT {p:Prop} [Decidable p] (h:p):AV.b (decide p) = .b true:=congrArg AV.b (decide_eq_true h)
theorem dF {p:Prop} [Decidable p] (h:¬p):AV.b (decide p) = .b false:=congrArg AV.b (decide_eq_false h)
theorem dN {p:Prop} [Decidable p] (h:p):AV.b (!decide p) = .b false:=congrArg (fun b=>AV.b (!b)) (decide_eq_true h)
theorem dM {p:Prop} [Decidable p] (h:¬p):AV.b (!decide p) = .b true:=congrArg (fun b=>AV.b (!b)) (decide_eq_false h)
theorem dI {k:IntKind} {a b:Int} (h:a=b):AV.i k a = .i k b:=congrArg (AV.i k) h
theorem bR {s:St} {σ':Sto} {id:Nat} {t:TypeId} {m ep ep':Nat} {els els':List (List AV)} (h:s.σ id=⟨ep,some (.row t m els)⟩) (he:els=els'):WkB1 s σ' id ⟨ep',some (.row t m els')⟩:=.row h he
theorem bS {s:St} {σ':Sto} {id ep ep':Nat} {t:TypeId} {cs:List AV} (h:s.σ id=⟨ep,some (.box t cs)⟩) (h1:cs.all AV.one=true) (hp:cs.all AV.pu1=true):WkB1 s σ' id ⟨ep',some (.box t cs)⟩:=.same h h1 hp
end Go.Proofs.YtoaibdbehlcnfaaGreat.Sm
end
section
namespace Go.Proofs.YtoaibdbehlcnfaaGreat.Sm
open Go.RowKit Go.WideShapes Go.ChangeShapes Go.Deep
theorem ReadA.iint {P:Program} {t:TypeId} (ht:P.underlying t=some (.int .i64)):ReadA P t 1 (fun x:Int=>[.i .i64 x]) :=
  ⟨fun _=>rfl,fun _ y hy=>by obtain rfl:=List.mem_singleton.1 hy;rfl,fun H e w base spare held fuel cs x hx=>by
    obtain ⟨n,rfl,_,hw⟩:=DataW.trod_int ht hx
    exact ⟨n,.single (.i _ _) rfl⟩⟩
theorem ra_int:ReadA Tryz.prog 3 1 (fun x:Int=>[.i .i64 x]):=.iint Tryz.underlying3
theorem ra_u64:ReadA Tryz.prog 32 1 (fun x:UInt64=>[.u x]):=.u64 Tryz.underlying32
theorem ra_u8:ReadA Tryz.prog 5 1 (fun x:UInt8=>[.y x]):=.u8 Tryz.underlying5
structure Hd where
 hi:UInt64
 lo:UInt64
theorem Hd.eq_iff (a b:Hd):a=b↔a.hi=b.hi/\a.lo=b.lo:=by
 cases a;cases b;simp
instance:DecidableEq Hd:=fun a b=>decidable_of_iff _ (Hd.eq_iff a b).symm
def cHd (x:Hd):List AV:=[.u x.hi,.u x.lo]
theorem ra_Hd:ReadA Tryz.prog 34 2 (α:=Hd) cHd:=by
 refine ⟨fun _=>rfl,fun a=>List.all_eq_true.1 rfl,fun H e w base spare held fuel cs x hx=>?_⟩
 obtain ⟨m,hl,hp⟩:=struct_part Tryz.underlying34 hx
 have hl:cs.length=2:=hl.trans (by kernel_rfl)
 obtain ⟨a0,h0⟩:=ra_u64.part (hp 0 32 0 1 rfl (by kernel_rfl))
 obtain ⟨a1,h1⟩:=ra_u64.part (hp 1 32 1 1 rfl (by kernel_rfl))
 refine ⟨⟨a0,a1⟩,PWs.all ?_⟩
 exact h0.join rfl (h1.join rfl (PWs.nil hl))
structure Cb where
 value:Hd
 care:Hd
theorem Cb.eq_iff (a b:Cb):a=b↔a.value=b.value/\a.care=b.care:=by
 cases a;cases b;simp
instance:DecidableEq Cb:=fun a b=>decidable_of_iff _ (Cb.eq_iff a b).symm
def cCb (x:Cb):List AV:=[.u x.value.hi,.u x.value.lo,.u x.care.hi,.u x.care.lo]
theorem ra_Cb:ReadA Tryz.prog 36 4 (α:=Cb) cCb:=by
 refine ⟨fun _=>rfl,fun a=>List.all_eq_true.1 rfl,fun H e w base spare held fuel cs x hx=>?_⟩
 obtain ⟨m,hl,hp⟩:=struct_part Tryz.underlying36 hx
 have hl:cs.length=4:=hl.trans (by kernel_rfl)
 obtain ⟨a0,h0⟩:=ra_Hd.part (hp 0 34 0 2 rfl (by kernel_rfl))
 obtain ⟨a1,h1⟩:=ra_Hd.part (hp 1 34 2 2 rfl (by kernel_rfl))
 refine ⟨⟨a0,a1⟩,PWs.all ?_⟩
 exact h0.join rfl (h1.join rfl (PWs.nil hl))
structure Ac where
 kind:Int
 port:Int
 table:Int
 set:Cb
theorem Ac.eq_iff (a b:Ac):a=b↔a.kind=b.kind/\a.port=b.port/\a.table=b.table/\a.set=b.set:=by
 cases a;cases b;simp
instance:DecidableEq Ac:=fun a b=>decidable_of_iff _ (Ac.eq_iff a b).symm
def cAc (x:Ac):List AV:=[.i .i64 x.kind,.i .i64 x.port,.i .i64 x.table,.u x.set.value.hi,.u x.set.value.lo,.u x.set.care.hi,.u x.set.care.lo]
theorem ra_Ac:ReadA Tryz.prog 38 7 (α:=Ac) cAc:=by
 refine ⟨fun _=>rfl,fun a=>List.all_eq_true.1 rfl,fun H e w base spare held fuel cs x hx=>?_⟩
 obtain ⟨m,hl,hp⟩:=struct_part Tryz.underlying38 hx
 have hl:cs.length=7:=hl.trans (by kernel_rfl)
 obtain ⟨a0,h0⟩:=ra_int.part (hp 0 3 0 1 rfl (by kernel_rfl))
 obtain ⟨a1,h1⟩:=ra_int.part (hp 1 3 1 1 rfl (by kernel_rfl))
 obtain ⟨a2,h2⟩:=ra_int.part (hp 2 3 2 1 rfl (by kernel_rfl))
 obtain ⟨a3,h3⟩:=ra_Cb.part (hp 3 36 3 4 rfl (by kernel_rfl))
 refine ⟨⟨a0,a1,a2,a3⟩,PWs.all ?_⟩
 exact h0.join rfl (h1.join rfl (h2.join rfl (h3.join rfl (PWs.nil hl))))
structure Rl where
 prio:Int
 mat:Cb
 act:Ac
theorem Rl.eq_iff (a b:Rl):a=b↔a.prio=b.prio/\a.mat=b.mat/\a.act=b.act:=by
 cases a;cases b;simp
instance:DecidableEq Rl:=fun a b=>decidable_of_iff _ (Rl.eq_iff a b).symm
def cRl (x:Rl):List AV:=[.i .i64 x.prio,.u x.mat.value.hi,.u x.mat.value.lo,.u x.mat.care.hi,.u x.mat.care.lo,.i .i64 x.act.kind,.i .i64 x.act.port,.i .i64 x.act.table,.u x.act.set.value.hi,.u x.act.set.value.lo,.u x.act.set.care.hi,.u x.act.set.care.lo]
theorem ra_Rl:ReadA Tryz.prog 40 12 (α:=Rl) cRl:=by
 refine ⟨fun _=>rfl,fun a=>List.all_eq_true.1 rfl,fun H e w base spare held fuel cs x hx=>?_⟩
 obtain ⟨m,hl,hp⟩:=struct_part Tryz.underlying40 hx
 have hl:cs.length=12:=hl.trans (by kernel_rfl)
 obtain ⟨a0,h0⟩:=ra_int.part (hp 0 3 0 1 rfl (by kernel_rfl))
 obtain ⟨a1,h1⟩:=ra_Cb.part (hp 1 36 1 4 rfl (by kernel_rfl))
 obtain ⟨a2,h2⟩:=ra_Ac.part (hp 2 38 5 7 rfl (by kernel_rfl))
 refine ⟨⟨a0,a1,a2⟩,PWs.all ?_⟩
 exact h0.join rfl (h1.join rfl (h2.join rfl (PWs.nil hl)))
structure Pt where
 kind:Int
 tenant:Int
 peer:Int
 at_:Int
 cost:Int
theorem Pt.eq_iff (a b:Pt):a=b↔a.kind=b.kind/\a.tenant=b.tenant/\a.peer=b.peer/\a.at_=b.at_/\a.cost=b.cost:=by
 cases a;cases b;simp
instance:DecidableEq Pt:=fun a b=>decidable_of_iff _ (Pt.eq_iff a b).symm
def cPt (x:Pt):List AV:=[.i .i64 x.kind,.i .i64 x.tenant,.i .i64 x.peer,.i .i64 x.at_,.i .i64 x.cost]
theorem ra_Pt:ReadA Tryz.prog 126 5 (α:=Pt) cPt:=by
 refine ⟨fun _=>rfl,fun a=>List.all_eq_true.1 rfl,fun H e w base spare held fuel cs x hx=>?_⟩
 obtain ⟨m,hl,hp⟩:=struct_part Tryz.underlying126 hx
 have hl:cs.length=5:=hl.trans (by kernel_rfl)
 obtain ⟨a0,h0⟩:=ra_int.part (hp 0 3 0 1 rfl (by kernel_rfl))
 obtain ⟨a1,h1⟩:=ra_int.part (hp 1 3 1 1 rfl (by kernel_rfl))
 obtain ⟨a2,h2⟩:=ra_int.part (hp 2 3 2 1 rfl (by kernel_rfl))
 obtain ⟨a3,h3⟩:=ra_int.part (hp 3 3 3 1 rfl (by kernel_rfl))
 obtain ⟨a4,h4⟩:=ra_int.part (hp 4 3 4 1 rfl (by kernel_rfl))
 refine ⟨⟨a0,a1,a2,a3,a4⟩,PWs.all ?_⟩
 exact h0.join rfl (h1.join rfl (h2.join rfl (h3.join rfl (h4.join rfl (PWs.nil hl)))))
structure Sp where
 sw:Int
 port:Int
theorem Sp.eq_iff (a b:Sp):a=b↔a.sw=b.sw/\a.port=b.port:=by
 cases a;cases b;simp
instance:DecidableEq Sp:=fun a b=>decidable_of_iff _ (Sp.eq_iff a b).symm
def cSp (x:Sp):List AV:=[.i .i64 x.sw,.i .i64 x.port]
theorem ra_Sp:ReadA Tryz.prog 42 2 (α:=Sp) cSp:=by
 refine ⟨fun _=>rfl,fun a=>List.all_eq_true.1 rfl,fun H e w base spare held fuel cs x hx=>?_⟩
 obtain ⟨m,hl,hp⟩:=struct_part Tryz.underlying42 hx
 have hl:cs.length=2:=hl.trans (by kernel_rfl)
 obtain ⟨a0,h0⟩:=ra_int.part (hp 0 3 0 1 rfl (by kernel_rfl))
 obtain ⟨a1,h1⟩:=ra_int.part (hp 1 3 1 1 rfl (by kernel_rfl))
 refine ⟨⟨a0,a1⟩,PWs.all ?_⟩
 exact h0.join rfl (h1.join rfl (PWs.nil hl))
structure Wy where
 fro:Int
 to:Int
 via:Int
theorem Wy.eq_iff (a b:Wy):a=b↔a.fro=b.fro/\a.to=b.to/\a.via=b.via:=by
 cases a;cases b;simp
instance:DecidableEq Wy:=fun a b=>decidable_of_iff _ (Wy.eq_iff a b).symm
def cWy (x:Wy):List AV:=[.i .i64 x.fro,.i .i64 x.to,.i .i64 x.via]
theorem ra_Wy:ReadA Tryz.prog 160 3 (α:=Wy) cWy:=by
 refine ⟨fun _=>rfl,fun a=>List.all_eq_true.1 rfl,fun H e w base spare held fuel cs x hx=>?_⟩
 obtain ⟨m,hl,hp⟩:=struct_part Tryz.underlying160 hx
 have hl:cs.length=3:=hl.trans (by kernel_rfl)
 obtain ⟨a0,h0⟩:=ra_int.part (hp 0 3 0 1 rfl (by kernel_rfl))
 obtain ⟨a1,h1⟩:=ra_int.part (hp 1 3 1 1 rfl (by kernel_rfl))
 obtain ⟨a2,h2⟩:=ra_int.part (hp 2 3 2 1 rfl (by kernel_rfl))
 refine ⟨⟨a0,a1,a2⟩,PWs.all ?_⟩
 exact h0.join rfl (h1.join rfl (h2.join rfl (PWs.nil hl)))
def cPr (x:Int × Int):List AV:=[.i .i64 x.1,.i .i64 x.2]
theorem ra_Pr:ReadA Tryz.prog 158 2 (α:=Int × Int) cPr:=by
 refine ⟨fun _=>rfl,fun a=>List.all_eq_true.1 rfl,fun H e w base spare held fuel cs x hx=>?_⟩
 obtain ⟨m,hl,hp⟩:=array_part Tryz.underlying158 hx
 have hl:cs.length=2:=hl.trans (by kernel_rfl)
 obtain ⟨a0,h0⟩:=ra_int.part (hp 0 0 1 (by omega) (by kernel_rfl) rfl)
 obtain ⟨a1,h1⟩:=ra_int.part (hp 1 1 1 (by omega) (by kernel_rfl) rfl)
 exact ⟨(a0,a1),PWs.all (h0.join rfl (h1.join rfl (PWs.nil hl)))⟩
def cPts (l:List Pt):List AV:=[.sl (l.map cPt)]
def cRls (l:List Rl):List AV:=[.sl (l.map cRl)]
def cTab (l:List (List Rl)):List AV:=[.sl (l.map cRls)]
structure Topo where
 ports:List (List Pt)
def cTopo (x:Topo):List AV:=[.sl (x.ports.map cPts)]
structure Pol where
 tenants:Int
 peers:List (Int × Int)
 ways:List Wy
def cPol (x:Pol):List AV:=[.i .i64 x.tenants,.sl (x.peers.map cPr),.sl (x.ways.map cWy)]
structure Cf where
 topo:Topo
 pol:Pol
 tables:List (List (List Rl))
def cCf (x:Cf):List AV:=[.sl (x.topo.ports.map cPts),.i .i64 x.pol.tenants,.sl (x.pol.peers.map cPr),.sl (x.pol.ways.map cWy),.sl (x.tables.map cTab)]
structure Hop where
 sw:Int
 table:Int
 rule:Int
 head:Hd
theorem Hop.eq_iff (a b:Hop):a=b↔a.sw=b.sw/\a.table=b.table/\a.rule=b.rule/\a.head=b.head:=by
 cases a;cases b;simp
instance:DecidableEq Hop:=fun a b=>decidable_of_iff _ (Hop.eq_iff a b).symm
def cHop (x:Hop):List AV:=[.i .i64 x.sw,.i .i64 x.table,.i .i64 x.rule,.u x.head.hi,.u x.head.lo]
structure Run where
 fin:Int
 at_:Sp
 hops:List Hop
def cRun (x:Run):List AV:=[.i .i64 x.fin,.i .i64 x.at_.sw,.i .i64 x.at_.port,.sl (x.hops.map cHop)]
def cI (x:Int):List AV:=[.i .i64 x]
structure Atom where
 ids:List Int
 head:Hd
 pile:List Cb
def cAtom (x:Atom):List AV:=[.sl (x.ids.map cI),.u x.head.hi,.u x.head.lo,.sl (x.pile.map cCb)]
end Go.Proofs.YtoaibdbehlcnfaaGreat.Sm
end
section
namespace Go.Proofs.YtoaibdbehlcnfaaGreat.Sm
open Go.RowKit
def sb64 (a b:UInt64):UInt64:=UInt64.ofNat ((a.toNat+18446744073709551616 - b.toNat) % 18446744073709551616)
def bw64 (a b:UInt64):UInt64:=UInt64.ofNat (if a.toNat<b.toNat then 1 else 0)
theorem op_sub64 {P:Program} {N:Nat} {o:Oper} {s:St} {c:Call} {f:FuncId} {fn:Func} {x y z:Operand} {a b:UInt64} (ho:o.op = .call c) (hc:c.callee = .value (.func f)) (ha:c.args = #[x,y,z]) (hx:s.ev x = .u a) (hy:s.ev y = .u b) (hz:s.ev z = .u 0)
  (hf : P.funcs[f]? = some fn) (hname : (fn.name == "runtime.NumGoroutine") = false) (hb : fn.body.isNone = true) (hn : Extern.findNext fn = none) (he : Extern.find fn = some sub64Entry) : OpLoc P N o s ⟨.tup [.u (sb64 a b), .u (bw64 a b)], [], []⟩ := by
 refine oploc_val [] _ fun s' W F μ ac g1 g2 hs=>?_
 have opers:o.op.operands.toList=[.func f,x,y,z]:=by rw [ho];simp [Op.operands,Call.operands,hc,ha]
 have ex:=hs.ev x
 rw [g1 x (by rw [opers];simp),hx] at ex
 have ey:=hs.ev y
 rw [g1 y (by rw [opers];simp),hy] at ey
 have ez:=hs.ev z
 rw [g1 z (by rw [opers];simp),hz] at ez
 have key:=run_sub64 (P:=P) a.toNat b.toNat 0 (by omega) W
 have h1:(sb64 a b).toNat=(a.toNat+18446744073709551616 - b.toNat - 0) % 18446744073709551616:=by
  rw [sb64,UInt64.toNat_ofNat']
  omega
 have h2:(bw64 a b).toNat=(if a.toNat<b.toNat+0 then 1 else 0):=by
  rw [bw64,UInt64.toNat_ofNat',Nat.add_zero]
  split <;> rfl
 rw [<- h1,<- h2] at key
 refine ⟨_,?_,.tup [.u _,.u _] [_,_] rfl (pw_cons (.pure (.u _)) (pw_cons (.pure (.u _)) pw_nil))⟩
 have e0:(.int .u64 ((0:UInt64).toNat:Int):Value) = .int .u64 ((0:Nat):Int):=rfl
 have ef:ac.eval (.func f) = .func (.func f) #[] #[]:=rfl
 simp only [execOp,ho,resolve,hc,ha,List.map_toArray,List.map_cons,List.map_nil,Sem.run_bind,invoke,ex.u',ey.u',ez.u',e0,ef]
 show Sem.run P (callFunc f #[.int .u64 (a.toNat:Int),.int .u64 (b.toNat:Int),.int .u64 ((0:Nat):Int)]) W=_
 rw [run_callFunc_extern hf hname hb hn he,key]
 rfl
def Hd.and (a b:Hd):Hd:=⟨a.hi &&& b.hi,a.lo &&& b.lo⟩
def Hd.or (a b:Hd):Hd:=⟨a.hi ||| b.hi,a.lo ||| b.lo⟩
def Hd.xor (a b:Hd):Hd:=⟨a.hi ^^^ b.hi,a.lo ^^^ b.lo⟩
def Hd.less (a b:Hd):Hd:=⟨a.hi &&& ~~~b.hi,a.lo &&& ~~~b.lo⟩
theorem d_Bits_and (a b:Hd):PDoes Tryz.prog 252 [.agg (cHd a),.agg (cHd b)] (.agg (cHd (a.and b))):=by
 refine PDoes.of_bodyN Tryz.func252 rfl (by kernel_rfl) rfl rfl ?_
 refine jA ?_
 refine AW.ret (retQA ty_ok rfl rfl rfl ?_)
 rfl
theorem d_Bits_or (a b:Hd):PDoes Tryz.prog 251 [.agg (cHd a),.agg (cHd b)] (.agg (cHd (a.or b))):=by
 refine PDoes.of_bodyN Tryz.func251 rfl (by kernel_rfl) rfl rfl ?_
 refine jA ?_
 refine AW.ret (retQA ty_ok rfl rfl rfl ?_)
 rfl
theorem d_Bits_xor (a b:Hd):PDoes Tryz.prog 253 [.agg (cHd a),.agg (cHd b)] (.agg (cHd (a.xor b))):=by
 refine PDoes.of_bodyN Tryz.func253 rfl (by kernel_rfl) rfl rfl ?_
 refine jA ?_
 refine AW.ret (retQA ty_ok rfl rfl rfl ?_)
 rfl
theorem d_Bits_less (a b:Hd):PDoes Tryz.prog 200 [.agg (cHd a),.agg (cHd b)] (.agg (cHd (a.less b))):=by
 refine PDoes.of_bodyN Tryz.func200 rfl (by kernel_rfl) rfl rfl ?_
 refine jA ?_
 refine AW.ret (retQA ty_ok rfl rfl rfl ?_)
 rfl
theorem d_both (f:Nat) (a b c:Hd) (h:PDoes Tryz.prog f [.agg (cHd a),.agg (cHd b)] (.agg (cHd c))):PDoes Tryz.prog 199 [.fn f [] [],.agg (cHd a),.agg (cHd b)] (.agg (cHd c)):=by
 refine PDoes.of_bodyN Tryz.func199 rfl (by kernel_rfl) rfl rfl ?_
 refine jA ?_
 refine RG.callS rfl rfl rfl rfl rfl h rfl rfl ?_
 refine wH rfl ?_;refine jA ?_
 refine AW.ret (retQA ty_ok rfl rfl rfl ?_)
 rfl
theorem d_And (a b:Hd):PDoes Tryz.prog 197 [.agg (cHd a),.agg (cHd b)] (.agg (cHd (a.and b))):=by
 refine PDoes.of_bodyN Tryz.func197 rfl (by kernel_rfl) rfl rfl ?_
 refine jA ?_
 refine RG.callS rfl rfl rfl rfl rfl (d_both _ a b _ (d_Bits_and a b)) rfl rfl ?_
 refine wH rfl ?_;refine jA ?_
 refine AW.ret (retQA ty_ok rfl rfl rfl ?_)
 rfl
theorem d_Or (a b:Hd):PDoes Tryz.prog 208 [.agg (cHd a),.agg (cHd b)] (.agg (cHd (a.or b))):=by
 refine PDoes.of_bodyN Tryz.func208 rfl (by kernel_rfl) rfl rfl ?_
 refine jA ?_
 refine RG.callS rfl rfl rfl rfl rfl (d_both _ a b _ (d_Bits_or a b)) rfl rfl ?_
 refine wH rfl ?_;refine jA ?_
 refine AW.ret (retQA ty_ok rfl rfl rfl ?_)
 rfl
theorem d_Xor (a b:Hd):PDoes Tryz.prog 198 [.agg (cHd a),.agg (cHd b)] (.agg (cHd (a.xor b))):=by
 refine PDoes.of_bodyN Tryz.func198 rfl (by kernel_rfl) rfl rfl ?_
 refine jA ?_
 refine RG.callS rfl rfl rfl rfl rfl (d_both _ a b _ (d_Bits_xor a b)) rfl rfl ?_
 refine wH rfl ?_;refine jA ?_
 refine AW.ret (retQA ty_ok rfl rfl rfl ?_)
 rfl
theorem d_Less (a b:Hd):PDoes Tryz.prog 154 [.agg (cHd a),.agg (cHd b)] (.agg (cHd (a.less b))):=by
 refine PDoes.of_bodyN Tryz.func154 rfl (by kernel_rfl) rfl rfl ?_
 refine jA ?_
 refine RG.callS rfl rfl rfl rfl rfl (d_both _ a b _ (d_Bits_less a b)) rfl rfl ?_
 refine wH rfl ?_;refine jA ?_
 refine AW.ret (retQA ty_ok rfl rfl rfl ?_)
 rfl
def Hd.left (a:Hd) (n:Nat):Hd:=if 64<=n then ⟨shl64 a.lo (n - 64),0⟩ else ⟨shl64 a.hi n ||| shr64 a.lo (64 - n),shl64 a.lo n⟩
def Hd.right (a:Hd) (n:Nat):Hd:=if 64<=n then ⟨0,shr64 a.hi (n - 64)⟩ else ⟨shr64 a.hi n,shr64 a.lo n ||| shl64 a.hi (64 - n)⟩
theorem shI {z:Int} {k:Nat} (h:z=(k:Nat)) (hk:k<=128):(ofI64 z).toNat=k:=by
 have:=ofI64_nat z
 rw [IntKind.wrap_u64] at this
 omega
theorem shn (n k:Nat) (h:n<=128) (hk:k<=n):(ofI64 (IntKind.i64.wrap ((n:Int) - Int.ofNat k))).toNat=n - k:=by
 refine shI ?_ (by omega)
 rw [IntKind.wrap_i64]
 simp only [Int.ofNat_eq_natCast]
 omega
theorem shk (n k:Nat) (h:k<=128) (hk:n<=k):(ofI64 (IntKind.i64.wrap (Int.ofNat k - (n:Int)))).toNat=k - n:=by
 refine shI ?_ (by omega)
 rw [IntKind.wrap_i64]
 simp only [Int.ofNat_eq_natCast]
 omega
theorem sh0 (n:Nat) (h:n<=128):(ofI64 (n:Int)).toNat=n:=shI rfl h
theorem d_left (a:Hd) (n:Nat) (hn:n<=128):PDoes Tryz.prog 250 [.agg (cHd a),.i .i64 n] (.agg (cHd (a.left n))):=by
 refine PDoes.of_bodyN Tryz.func250 rfl (by kernel_rfl) rfl rfl ?_
 refine jA ?_
 refine AW.cond rfl (fun h=>?_) (fun h=>?_)
 ·have h:64<=n:=Int.ofNat_le.1 (of_decide_eq_true h)
  refine jA ?_
  refine AW.ret (retQA ty_ok rfl rfl rfl ?_)
  rw [Hd.left,if_pos h,shn n 64 hn h]
  rfl
 ·have h:¬64<=n:=fun h'=>of_decide_eq_false h (Int.ofNat_le.2 h')
  refine jA ?_
  refine AW.ret (retQA ty_ok rfl rfl rfl ?_)
  rw [Hd.left,if_neg h,shk n 64 (by omega) (by omega),sh0 n hn]
  rfl
theorem d_right (a:Hd) (n:Nat) (hn:n<=128):PDoes Tryz.prog 269 [.agg (cHd a),.i .i64 n] (.agg (cHd (a.right n))):=by
 refine PDoes.of_bodyN Tryz.func269 rfl (by kernel_rfl) rfl rfl ?_
 refine jA ?_
 refine AW.cond rfl (fun h=>?_) (fun h=>?_)
 ·have h:64<=n:=Int.ofNat_le.1 (of_decide_eq_true h)
  refine jA ?_
  refine AW.ret (retQA ty_ok rfl rfl rfl ?_)
  rw [Hd.right,if_pos h,shn n 64 hn h]
  rfl
 ·have h:¬64<=n:=fun h'=>of_decide_eq_false h (Int.ofNat_le.2 h')
  refine jA ?_
  refine AW.ret (retQA ty_ok rfl rfl rfl ?_)
  rw [Hd.right,if_neg h,shk n 64 (by omega) (by omega),sh0 n hn]
  rfl
theorem d_field (at_ size most:Nat) (h1:size<=most) (h2:at_+size<=128):PDoes Tryz.prog 248 [.i .i64 at_,.i .i64 size,.i .i64 most] (.b true):=by
 refine PDoes.of_bodyN Tryz.func248 rfl (by kernel_rfl) rfl rfl ?_
 refine jB ?_;refine wF ?_;refine wH rfl ?_;refine jB ?_
 refine AW.text ?_
 have e3:IntKind.i64.wrap (Int.ofNat 128 - (size:Int))=128 - (size:Int):=by rw [IntKind.wrap_i64];simp only [Int.ofNat_eq_natCast];omega
 refine RG.runO ty_ok 0 [(8,.b true),(11,.b true),(16,.b true),(22,.b true)] 400 rfl ⟨congrArg AV.b (decide_eq_true ?_),congrArg AV.b (decide_eq_true ?_),congrArg AV.b (decide_eq_true ?_),congrArg AV.b (decide_eq_true ?_),trivial⟩ ?_
 ·rw [e3];omega
 ·omega
 ·exact Int.natCast_nonneg _
 ·exact Int.natCast_nonneg _
 refine jB ?_
 refine AW.ret (retQB rfl rfl ?_)
 rfl
def lowH (n:Nat):Hd:=if 128<=n then ⟨18446744073709551615,18446744073709551615⟩ else ⟨((Hd.mk 0 1).left n).hi - bw64 ((Hd.mk 0 1).left n).lo 1,sb64 ((Hd.mk 0 1).left n).lo 1⟩
theorem d_low (n:Nat) (hn:n<=128):PDoes Tryz.prog 249 [.i .i64 n] (.agg (cHd (lowH n))):=by
 refine PDoes.of_bodyN Tryz.func249 rfl (by kernel_rfl) rfl rfl ?_
 refine jA ?_
 refine AW.cond rfl (fun h=>?_) (fun h=>?_)
 ·have h:128<=n:=Int.ofNat_le.1 (of_decide_eq_true h)
  refine jA ?_
  refine AW.ret (retQA ty_ok rfl rfl rfl ?_)
  rw [lowH,if_pos h]
  rfl
 ·have h:¬128<=n:=fun h'=>of_decide_eq_false h (Int.ofNat_le.2 h')
  refine jA ?_
  refine RG.callS rfl rfl rfl rfl rfl (d_left ⟨0,1⟩ n hn) rfl rfl ?_
  refine wH rfl ?_;refine jA ?_
  refine RG.opS rfl (op_sub64 rfl rfl rfl rfl rfl rfl Tryz.func281 (by kernel_rfl) (by kernel_rfl) (by kernel_rfl) (by kernel_rfl)) rfl ?_
  refine wH rfl ?_;refine jA ?_
  refine AW.ret (retQA ty_ok rfl rfl rfl ?_)
  rw [lowH,if_neg h]
  rfl
def maskH (at_ size:Nat):Hd:=(lowH size).left at_
theorem d_Mask (at_ size:Nat) (h:at_+size<=128):PDoes Tryz.prog 195 [.i .i64 at_,.i .i64 size] (.tup [.agg (cHd (maskH at_ size)),.i .i64 0]):=by
 refine PDoes.of_bodyN Tryz.func195 rfl (by kernel_rfl) rfl rfl ?_
 refine jA ?_
 refine RG.callS rfl rfl rfl rfl rfl (d_field at_ size 128 (by omega) h) rfl rfl ?_
 refine wH rfl ?_;refine jA ?_;refine AW.condF rfl ?_;refine jA ?_
 refine RG.callS rfl rfl rfl rfl rfl (d_low size (by omega)) rfl rfl ?_
 refine wH rfl ?_;refine jA ?_
 refine RG.callS rfl rfl rfl rfl rfl (d_left _ at_ (by omega)) rfl rfl ?_
 refine wH rfl ?_;refine jA ?_
 refine AW.ret (retQA ty_ok rfl rfl rfl ?_)
 rfl
def Hd.bit (a:Hd) (n:Nat):Bool:=decide ((a.right n).lo &&& 1=1)
theorem d_Bit (a:Hd) (n:Nat) (hn:n<128):PDoes Tryz.prog 225 [.agg (cHd a),.i .i64 n] (.b (a.bit n)):=by
 refine PDoes.of_bodyN Tryz.func225 rfl (by kernel_rfl) rfl rfl ?_
 refine jB ?_;refine wF ?_;refine wH rfl ?_;refine jB ?_
 refine AW.text ?_
 refine RG.runO ty_ok 0 [(6,.b true),(9,.b true)] 400 rfl ⟨congrArg AV.b (decide_eq_true ?_),congrArg AV.b (decide_eq_true ?_),trivial⟩ ?_
 ·exact Int.ofNat_lt.2 hn
 ·exact Int.natCast_nonneg _
 refine RG.callS rfl rfl rfl rfl rfl (d_right a n (by omega)) rfl rfl ?_
 refine wH rfl ?_;refine jA ?_
 refine AW.ret (retQA ty_ok rfl rfl rfl ?_)
 rfl
def Hd.put (a:Hd) (at_ size:Nat) (v:UInt64):Hd:=(a.less (maskH at_ size)).or ((Hd.mk 0 v).left at_)
theorem d_Put (a:Hd) (at_ size:Nat) (v:UInt64) (h:at_+size<=128) (h2:size<=64) (hv:v &&& ~~~(lowH size).lo=0):PDoes Tryz.prog 196 [.agg (cHd a),.i .i64 at_,.i .i64 size,.u v] (.tup [.agg (cHd (a.put at_ size v)),.i .i64 0]):=by
 refine PDoes.of_bodyN Tryz.func196 rfl (by kernel_rfl) rfl rfl ?_
 refine jA ?_
 refine RG.callS rfl rfl rfl rfl rfl (d_field at_ size 64 h2 h) rfl rfl ?_
 refine wH rfl ?_;refine jA ?_;refine AW.condF rfl ?_;refine jA ?_
 refine RG.callS rfl rfl rfl rfl rfl (d_low size (by omega)) rfl rfl ?_
 refine RG.runO ty_ok 0 [(23,.b false)] 400 rfl ⟨congrArg (fun b=>AV.b (!b)) (decide_eq_true hv),trivial⟩ ?_
 refine jA ?_;refine AW.condF rfl ?_;refine jA ?_
 refine RG.callS rfl rfl rfl rfl rfl (d_low size (by omega)) rfl rfl ?_
 refine wH rfl ?_;refine jA ?_
 refine RG.callS rfl rfl rfl rfl rfl (d_left _ at_ (by omega)) rfl rfl ?_
 refine wH rfl ?_;refine jA ?_
 refine RG.callS rfl rfl rfl rfl rfl (d_Bits_less a _) rfl rfl ?_
 refine wH rfl ?_;refine jA ?_
 refine RG.callS rfl rfl rfl rfl rfl (d_left ⟨0,v⟩ at_ (by omega)) rfl rfl ?_
 refine wH rfl ?_;refine jA ?_
 refine RG.callS rfl rfl rfl rfl rfl (d_Bits_or _ _) rfl rfl ?_
 refine wH rfl ?_;refine jA ?_
 refine AW.ret (retQA ty_ok rfl rfl rfl ?_)
 rfl
def ones64 (a:UInt64):UInt64 :=
 let x1:=(shr64 a 1 &&& 6148914691236517205)+(a &&& 6148914691236517205)
 let x2:=(shr64 x1 2 &&& 3689348814741910323)+(x1 &&& 3689348814741910323)
 let x3:=(shr64 x2 4+x2) &&& 1085102592571150095
 let x4:=x3+shr64 x3 8
 let x5:=x4+shr64 x4 16
 x5+shr64 x5 32
def onesI (a:UInt64):Int:=IntKind.i64.wrap ((BitVec.ofInt 64 (IntKind.i64.wrap (ones64 a).toNat) &&& BitVec.ofInt 64 127).toNat)
theorem d_OnesCount (a:UInt64):PDoes Tryz.prog 203 [.u a] (.i .i64 (onesI a)):=by
 refine PDoes.of_bodyN Tryz.func203 rfl (by kernel_rfl) rfl rfl ?_
 refine jA ?_
 refine AW.ret (retQA ty_ok rfl rfl rfl ?_)
 rfl
def Hd.ones (a:Hd):Int:=IntKind.i64.wrap (onesI a.hi+onesI a.lo)
theorem d_Ones (a:Hd):PDoes Tryz.prog 156 [.agg (cHd a)] (.i .i64 a.ones):=by
 refine PDoes.of_bodyN Tryz.func156 rfl (by kernel_rfl) rfl rfl ?_
 refine jB ?_;refine wF ?_;refine wH rfl ?_;refine jB ?_
 refine AW.draws mixed_ok ?_
 refine wH rfl ?_
 refine RG.callS rfl rfl rfl rfl rfl (d_OnesCount a.hi) rfl rfl ?_
 refine wH rfl ?_
 refine RG.callS rfl rfl rfl rfl rfl (d_OnesCount a.lo) rfl rfl ?_
 refine wH rfl ?_;refine jA ?_
 refine AW.ret (retQA ty_ok rfl rfl rfl ?_)
 rfl
end Go.Proofs.YtoaibdbehlcnfaaGreat.Sm
end
section
namespace Go.Proofs.YtoaibdbehlcnfaaGreat.Sm
open Go.RowKit
theorem eq_Hd (a b:Hd):eqA tyT 6 34 (.agg (cHd a)) (.agg (cHd b))=some (decide (a=b)):=by
 show some (decide (a.hi=b.hi) && (decide (a.lo=b.lo) && true))=_
 congr 1
 rw [Bool.eq_iff_iff]
 simp [Hd.eq_iff,and_assoc]
theorem eq_Cb (a b:Cb):eqA tyT 6 36 (.agg (cCb a)) (.agg (cCb b))=some (decide (a=b)):=by
 show some ((decide (a.value.hi=b.value.hi) && (decide (a.value.lo=b.value.lo) && true)) && ((decide (a.care.hi=b.care.hi) && (decide (a.care.lo=b.care.lo) && true)) && true))=_
 congr 1
 rw [Bool.eq_iff_iff]
 simp [Cb.eq_iff,Hd.eq_iff,and_assoc]
theorem eq_Ac (a b:Ac):eqA tyT 6 38 (.agg (cAc a)) (.agg (cAc b))=some (decide (a=b)):=by
 show some (decide (a.kind=b.kind) && (decide (a.port=b.port) && (decide (a.table=b.table) && (((decide (a.set.value.hi=b.set.value.hi) && (decide (a.set.value.lo=b.set.value.lo) && true)) && ((decide (a.set.care.hi=b.set.care.hi) && (decide (a.set.care.lo=b.set.care.lo) && true)) && true)) && true))))=_
 congr 1
 rw [Bool.eq_iff_iff]
 simp [Ac.eq_iff,Cb.eq_iff,Hd.eq_iff,and_assoc]
theorem eq_Rl (a b:Rl):eqA tyT 6 40 (.agg (cRl a)) (.agg (cRl b))=some (decide (a=b)):=by
 show some (decide (a.prio=b.prio) && (((decide (a.mat.value.hi=b.mat.value.hi) && (decide (a.mat.value.lo=b.mat.value.lo) && true)) && ((decide (a.mat.care.hi=b.mat.care.hi) && (decide (a.mat.care.lo=b.mat.care.lo) && true)) && true)) && ((decide (a.act.kind=b.act.kind) && (decide (a.act.port=b.act.port) && (decide (a.act.table=b.act.table) && (((decide (a.act.set.value.hi=b.act.set.value.hi) && (decide (a.act.set.value.lo=b.act.set.value.lo) && true)) && ((decide (a.act.set.care.hi=b.act.set.care.hi) && (decide (a.act.set.care.lo=b.act.set.care.lo) && true)) && true)) && true)))) && true)))=_
 congr 1
 rw [Bool.eq_iff_iff]
 simp [Rl.eq_iff,Cb.eq_iff,Hd.eq_iff,Ac.eq_iff,and_assoc]
theorem eq_Pt (a b:Pt):eqA tyT 6 126 (.agg (cPt a)) (.agg (cPt b))=some (decide (a=b)):=by
 show some (decide (a.kind=b.kind) && (decide (a.tenant=b.tenant) && (decide (a.peer=b.peer) && (decide (a.at_=b.at_) && (decide (a.cost=b.cost) && true)))))=_
 congr 1
 rw [Bool.eq_iff_iff]
 simp [Pt.eq_iff,and_assoc]
theorem eq_Sp (a b:Sp):eqA tyT 6 42 (.agg (cSp a)) (.agg (cSp b))=some (decide (a=b)):=by
 show some (decide (a.sw=b.sw) && (decide (a.port=b.port) && true))=_
 congr 1
 rw [Bool.eq_iff_iff]
 simp [Sp.eq_iff,and_assoc]
theorem eq_Wy (a b:Wy):eqA tyT 6 160 (.agg (cWy a)) (.agg (cWy b))=some (decide (a=b)):=by
 show some (decide (a.fro=b.fro) && (decide (a.to=b.to) && (decide (a.via=b.via) && true)))=_
 congr 1
 rw [Bool.eq_iff_iff]
 simp [Wy.eq_iff,and_assoc]
theorem eq_Pr (a b:Int × Int):eqA tyT 6 158 (.agg (cPr a)) (.agg (cPr b))=some (decide (a=b)):=by
 show some (decide (a.1=b.1) && (decide (a.2=b.2) && true))=_
 congr 1
 rw [Bool.eq_iff_iff]
 simp [Prod.ext_iff,and_assoc]
end Go.Proofs.YtoaibdbehlcnfaaGreat.Sm
end
section
namespace Go.Proofs.YtoaibdbehlcnfaaGreat.Sm
open Go.RowKit
def Hd.zero:Hd:=⟨0,0⟩
def Hd.none (h:Hd):Bool:=decide (h=Hd.zero)
theorem d_none (h:Hd) (r:Bool) (hr:h.none=r):PDoes Tryz.prog 151 [.agg (cHd h)] (.b r):=by
 refine PDoes.of_bodyN Tryz.func151 rfl (by kernel_rfl) rfl rfl ?_
 refine jA ?_
 refine RG.opS rfl (op_eqG rfl ty_ok (by kernel_rfl) (by kernel_rfl) rfl rfl (eq_Hd h Hd.zero) hr) rfl ?_
 refine wH rfl ?_;refine jA ?_
 refine AW.ret (retQA ty_ok rfl rfl rfl ?_)
 rfl
def Cb.zero:Cb:=⟨Hd.zero,Hd.zero⟩
def Cb.sound (c:Cb):Bool:=(c.value.less c.care).none
theorem d_Sound (c:Cb) (r:Bool) (hr:c.sound=r):PDoes Tryz.prog 105 [.agg (cCb c)] (.b r):=by
 refine PDoes.of_bodyN Tryz.func105 rfl (by kernel_rfl) rfl rfl ?_
 refine jA ?_
 refine RG.callS rfl rfl rfl rfl rfl (d_Less c.value c.care) rfl rfl ?_;refine wH rfl ?_;refine jA ?_
 refine RG.callS rfl rfl rfl rfl rfl (d_none _ r hr) rfl rfl ?_;refine wH rfl ?_;refine jA ?_
 refine AW.ret (retQA ty_ok rfl rfl rfl ?_)
 rfl
theorem d_All:PDoes Tryz.prog 106 [] (.agg (cCb Cb.zero)):=by
 refine PDoes.of_bodyN Tryz.func106 rfl (by kernel_rfl) rfl rfl ?_
 refine jA ?_
 refine AW.ret (retQA ty_ok rfl rfl rfl ?_)
 rfl
def Cb.make (value care:Hd):Cb:=⟨value.and care,care⟩
theorem d_Make (value care:Hd):PDoes Tryz.prog 153 [.agg (cHd value),.agg (cHd care)] (.agg (cCb (Cb.make value care))):=by
 refine PDoes.of_bodyN Tryz.func153 rfl (by kernel_rfl) rfl rfl ?_
 refine jA ?_
 refine RG.callS rfl rfl rfl rfl rfl (d_And value care) rfl rfl ?_;refine wH rfl ?_;refine jA ?_
 refine AW.ret (retQA ty_ok rfl rfl rfl ?_)
 rfl
def Cb.has (c:Cb) (h:Hd):Bool:=c.sound && decide (h.and c.care=c.value)
theorem d_Has (c:Cb) (h:Hd) (r:Bool) (hr:c.has h=r):PDoes Tryz.prog 280 [.agg (cCb c),.agg (cHd h)] (.b r):=by
 subst hr
 refine PDoes.of_bodyN Tryz.func280 rfl (by kernel_rfl) rfl rfl ?_
 refine jA ?_
 cases h1:c.sound
 ·refine RG.callS rfl rfl rfl rfl rfl (d_Sound c _ h1) rfl rfl ?_;refine wH rfl ?_;refine jA ?_
  refine AW.ret (retQA ty_ok rfl rfl rfl ?_)
  exact congrArg AV.b (by simp [Cb.has,h1])
 ·refine RG.callS rfl rfl rfl rfl rfl (d_Sound c _ h1) rfl rfl ?_;refine wH rfl ?_;refine jA ?_
  refine RG.callS rfl rfl rfl rfl rfl (d_And h c.care) rfl rfl ?_;refine wH rfl ?_;refine jA ?_
  refine RG.opS rfl (op_eqG rfl ty_ok (by kernel_rfl) (by kernel_rfl) rfl rfl (eq_Hd (h.and c.care) c.value) rfl) rfl ?_
  refine wH rfl ?_;refine jA ?_
  refine AW.ret (retQA ty_ok rfl rfl rfl ?_)
  exact congrArg AV.b (by simp [Cb.has,h1])
def Cb.apart (a b:Cb):Hd:=(a.value.xor b.value).and (a.care.and b.care)
theorem d_apart (a b:Cb):PDoes Tryz.prog 152 [.agg (cCb a),.agg (cCb b)] (.agg (cHd (a.apart b))):=by
 refine PDoes.of_bodyN Tryz.func152 rfl (by kernel_rfl) rfl rfl ?_
 refine jA ?_
 refine RG.callS rfl rfl rfl rfl rfl (d_Xor a.value b.value) rfl rfl ?_;refine wH rfl ?_;refine jA ?_
 refine RG.callS rfl rfl rfl rfl rfl (d_And a.care b.care) rfl rfl ?_;refine wH rfl ?_;refine jA ?_
 refine RG.callS rfl rfl rfl rfl rfl (d_And _ _) rfl rfl ?_;refine wH rfl ?_;refine jA ?_
 refine AW.ret (retQA ty_ok rfl rfl rfl ?_)
 rfl
def Cb.meets (a b:Cb):Bool:=a.sound && b.sound && (a.apart b).none
def Cb.met (a b:Cb):Cb:=⟨a.value.or b.value,a.care.or b.care⟩
theorem d_Meet (a b:Cb) (r:Bool) (hr:a.meets b=r):PDoes Tryz.prog 256 [.agg (cCb a),.agg (cCb b)] (.tup [.agg (cCb (cond r (a.met b) Cb.zero)),.b r]):=by
  subst hr
  refine PDoes.of_bodyN Tryz.func256 rfl (by kernel_rfl) rfl rfl ?_
  refine jA ?_
  cases h1:a.sound
  · rw [show a.meets b=false by simp [Cb.meets,h1]]
    refine RG.callS rfl rfl rfl rfl rfl (d_Sound a _ h1) rfl rfl ?_;refine wH rfl ?_;refine jA ?_
    refine AW.condT rfl ?_;refine jA ?_
    refine AW.ret (retQA ty_ok rfl rfl rfl ?_)
    rfl
  refine RG.callS rfl rfl rfl rfl rfl (d_Sound a _ h1) rfl rfl ?_;refine wH rfl ?_;refine jA ?_
  cases h2:b.sound
  · rw [show a.meets b=false by simp [Cb.meets,h2]]
    refine RG.callS rfl rfl rfl rfl rfl (d_Sound b _ h2) rfl rfl ?_;refine wH rfl ?_;refine jA ?_
    refine AW.condT rfl ?_;refine jA ?_
    refine AW.ret (retQA ty_ok rfl rfl rfl ?_)
    rfl
  refine RG.callS rfl rfl rfl rfl rfl (d_Sound b _ h2) rfl rfl ?_;refine wH rfl ?_;refine jA ?_
  refine RG.callS rfl rfl rfl rfl rfl (d_apart a b) rfl rfl ?_;refine wH rfl ?_;refine jA ?_
  cases h3:(a.apart b).none
  · rw [show a.meets b=false by simp [Cb.meets,h3]]
    refine RG.callS rfl rfl rfl rfl rfl (d_none _ _ h3) rfl rfl ?_;refine wH rfl ?_;refine jA ?_
    refine AW.condT rfl ?_;refine jA ?_
    refine AW.ret (retQA ty_ok rfl rfl rfl ?_)
    rfl
  rw [show a.meets b=true by simp [Cb.meets,h1,h2,h3]]
  refine RG.callS rfl rfl rfl rfl rfl (d_none _ _ h3) rfl rfl ?_;refine wH rfl ?_;refine jA ?_
  refine AW.condF rfl ?_;refine jA ?_
  refine RG.callS rfl rfl rfl rfl rfl (d_Or a.value b.value) rfl rfl ?_;refine wH rfl ?_;refine jA ?_
  refine RG.callS rfl rfl rfl rfl rfl (d_Or a.care b.care) rfl rfl ?_;refine wH rfl ?_;refine jA ?_
  refine AW.ret (retQA ty_ok rfl rfl rfl ?_)
  rfl
def Cb.within (a b:Cb):Bool:=a.sound && b.sound && (b.care.less a.care).none && (a.apart b).none
theorem d_Within (a b:Cb) (r:Bool) (hr:a.within b=r):PDoes Tryz.prog 305 [.agg (cCb a),.agg (cCb b)] (.b r):=by
 subst hr
 refine PDoes.of_bodyN Tryz.func305 rfl (by kernel_rfl) rfl rfl ?_
 refine jA ?_
 cases h1:a.sound
 ·refine RG.callS rfl rfl rfl rfl rfl (d_Sound a _ h1) rfl rfl ?_;refine wH rfl ?_;refine jA ?_
  refine AW.ret (retQA ty_ok rfl rfl rfl ?_)
  exact congrArg AV.b (by simp [Cb.within,h1])
 refine RG.callS rfl rfl rfl rfl rfl (d_Sound a _ h1) rfl rfl ?_;refine wH rfl ?_;refine jA ?_
 cases h2:b.sound
 ·refine RG.callS rfl rfl rfl rfl rfl (d_Sound b _ h2) rfl rfl ?_;refine wH rfl ?_;refine jA ?_
  refine AW.ret (retQA ty_ok rfl rfl rfl ?_)
  exact congrArg AV.b (by simp [Cb.within,h2])
 refine RG.callS rfl rfl rfl rfl rfl (d_Sound b _ h2) rfl rfl ?_;refine wH rfl ?_;refine jA ?_
 refine RG.callS rfl rfl rfl rfl rfl (d_Less b.care a.care) rfl rfl ?_;refine wH rfl ?_;refine jA ?_
 cases h3:(b.care.less a.care).none
 ·refine RG.callS rfl rfl rfl rfl rfl (d_none _ _ h3) rfl rfl ?_;refine wH rfl ?_;refine jA ?_
  refine AW.ret (retQA ty_ok rfl rfl rfl ?_)
  exact congrArg AV.b (by simp [Cb.within,h3])
 refine RG.callS rfl rfl rfl rfl rfl (d_none _ _ h3) rfl rfl ?_;refine wH rfl ?_;refine jA ?_
 refine RG.callS rfl rfl rfl rfl rfl (d_apart a b) rfl rfl ?_;refine wH rfl ?_;refine jA ?_
 refine RG.callS rfl rfl rfl rfl rfl (d_none _ _ rfl) rfl rfl ?_;refine wH rfl ?_;refine jA ?_
 refine AW.ret (retQA ty_ok rfl rfl rfl ?_)
 exact congrArg AV.b (by simp [Cb.within,h1,h2,h3])
def Hd.set (h:Hd) (c:Cb):Hd:=(h.less c.care).or (c.value.and c.care)
theorem d_Set (h:Hd) (c:Cb):PDoes Tryz.prog 159 [.agg (cHd h),.agg (cCb c)] (.agg (cHd (h.set c))):=by
 refine PDoes.of_bodyN Tryz.func159 rfl (by kernel_rfl) rfl rfl ?_
 refine jA ?_
 refine RG.callS rfl rfl rfl rfl rfl (d_Less h c.care) rfl rfl ?_;refine wH rfl ?_;refine jA ?_
 refine RG.callS rfl rfl rfl rfl rfl (d_And c.value c.care) rfl rfl ?_;refine wH rfl ?_;refine jA ?_
 refine RG.callS rfl rfl rfl rfl rfl (d_Or _ _) rfl rfl ?_;refine wH rfl ?_;refine jA ?_
 refine AW.ret (retQA ty_ok rfl rfl rfl ?_)
 rfl
def Cb.hits (c set:Cb):Bool:=c.sound && (c.apart (Cb.make set.value set.care)).none
def Cb.before (c set:Cb):Cb:=Cb.make c.value (c.care.less set.care)
theorem d_Before (c set:Cb) (r:Bool) (hr:c.hits set=r):PDoes Tryz.prog 99 [.agg (cCb c),.agg (cCb set)] (.tup [.agg (cCb (cond r (c.before set) Cb.zero)),.b r]):=by
  subst hr
  refine PDoes.of_bodyN Tryz.func99 rfl (by kernel_rfl) rfl rfl ?_
  refine jA ?_
  cases h1:c.sound
  · rw [show c.hits set=false by simp [Cb.hits,h1]]
    refine RG.callS rfl rfl rfl rfl rfl (d_Sound c _ h1) rfl rfl ?_;refine wH rfl ?_;refine jA ?_
    refine AW.condT rfl ?_;refine jA ?_
    refine AW.ret (retQA ty_ok rfl rfl rfl ?_)
    rfl
  refine RG.callS rfl rfl rfl rfl rfl (d_Sound c _ h1) rfl rfl ?_;refine wH rfl ?_;refine jA ?_
  refine RG.callS rfl rfl rfl rfl rfl (d_Make set.value set.care) rfl rfl ?_;refine wH rfl ?_;refine jA ?_
  refine RG.callS rfl rfl rfl rfl rfl (d_apart c (Cb.make set.value set.care)) rfl rfl ?_;refine wH rfl ?_;refine jA ?_
  cases h3:(c.apart (Cb.make set.value set.care)).none
  · rw [show c.hits set=false by simp [Cb.hits,h3]]
    refine RG.callS rfl rfl rfl rfl rfl (d_none _ _ h3) rfl rfl ?_;refine wH rfl ?_;refine jA ?_
    refine AW.condT rfl ?_;refine jA ?_
    refine AW.ret (retQA ty_ok rfl rfl rfl ?_)
    rfl
  rw [show c.hits set=true by simp [Cb.hits,h1,h3]]
  refine RG.callS rfl rfl rfl rfl rfl (d_none _ _ h3) rfl rfl ?_;refine wH rfl ?_;refine jA ?_
  refine AW.condF rfl ?_;refine jA ?_
  refine RG.callS rfl rfl rfl rfl rfl (d_Less c.care set.care) rfl rfl ?_;refine wH rfl ?_;refine jA ?_
  refine RG.callS rfl rfl rfl rfl rfl (d_Make c.value _) rfl rfl ?_;refine wH rfl ?_;refine jA ?_
  refine AW.ret (retQA ty_ok rfl rfl rfl ?_)
  rfl
theorem i64_dec (k:Nat) (h:k<=1000000000):AV.i .i64 (IntKind.i64.wrap ((k:Int) - Int.ofNat 1)) = .i .i64 ((k:Int) - 1):=by
 rw [IntKind.wrap_i64]
 simp only [Int.ofNat_eq_natCast]
 congr 1
 omega
def lessF (b:Cb) (more:Hd):Nat->Cb->List Cb->List Cb
 | 0,_,out=>out
 | n+1,rest,out=>cond (more.bit n) (lessF b more n ⟨rest.value.or (b.value.and (maskH n 1)),rest.care.or (maskH n 1)⟩ (out++[⟨(rest.value.or (b.value.and (maskH n 1))).xor (maskH n 1),rest.care.or (maskH n 1)⟩])) (lessF b more n rest out)
def Cb.less (a b:Cb):List Cb:=cond (a.sound && b.sound) (cond (a.meets b) (lessF b (b.care.less a.care) 128 a []) [a]) []
theorem d_CLess (a b:Cb):PDoes Tryz.prog 260 [.agg (cCb a),.agg (cCb b)] (.sl ((a.less b).map cCb)):=by
  refine PDoes.of_bodyN Tryz.func260 rfl (by kernel_rfl) rfl rfl ?_
  refine jA ?_
  cases h1:a.sound
  · rw [show a.less b=[] by simp [Cb.less,h1]]
    refine RG.callS rfl rfl rfl rfl rfl (d_Sound a _ h1) rfl rfl ?_;refine wH rfl ?_;refine jA ?_
    refine AW.condT rfl ?_;refine jA ?_
    refine AW.ret (retQA ty_ok rfl rfl rfl ?_)
    rfl
  refine RG.callS rfl rfl rfl rfl rfl (d_Sound a _ h1) rfl rfl ?_;refine wH rfl ?_;refine jA ?_
  cases h2:b.sound
  · rw [show a.less b=[] by simp [Cb.less,h2]]
    refine RG.callS rfl rfl rfl rfl rfl (d_Sound b _ h2) rfl rfl ?_;refine wH rfl ?_;refine jA ?_
    refine AW.condT rfl ?_;refine jA ?_
    refine AW.ret (retQA ty_ok rfl rfl rfl ?_)
    rfl
  refine RG.callS rfl rfl rfl rfl rfl (d_Sound b _ h2) rfl rfl ?_;refine wH rfl ?_;refine jA ?_
  refine AW.condF rfl ?_;refine jA ?_
  cases h3:a.meets b
  · rw [show a.less b=[a] by simp [Cb.less,h1,h2,h3]]
    refine RG.callS rfl rfl rfl rfl rfl (d_Meet a b _ h3) rfl rfl ?_;refine wH rfl ?_;refine jA ?_
    refine AW.condT rfl ?_;refine jA ?_
    refine AW.ret (retQA ty_ok rfl rfl rfl ?_)
    rfl
  rw [show a.less b=lessF b (b.care.less a.care) 128 a [] by simp [Cb.less,h1,h2,h3]]
  refine RG.callS rfl rfl rfl rfl rfl (d_Meet a b _ h3) rfl rfl ?_
  refine wH rfl ?_;refine jB ?_;refine wF ?_;refine wH rfl ?_;refine jB ?_;refine AW.condF rfl ?_;refine jB ?_
  refine AW.text ?_
  refine RG.opS rfl (op_nilRow 7 36 4 rfl) rfl ?_
  refine wH rfl ?_;refine jA ?_
  refine RG.callS rfl rfl rfl rfl rfl (d_Less b.care a.care) rfl rfl ?_;refine wH rfl ?_;refine jA ?_
  generalize b.care.less a.care=more
  refine AW.loopL (ι:=Nat × Cb × List Cb) (fun i=>[(3,.own 3 0 0),(7,.row 7 0 0 (i.2.2.map cCb).length),(8,.own 8 0 0),(9,.own 9 0 0),(10,.i .i64 ((i.1:Int) - 1))]) (fun i=>[(3,⟨0,some (.box 36 (cCb b))⟩),(7,⟨0,some (.row 36 4 (i.2.2.map cCb))⟩),(8,⟨0,some (.box 34 (cHd more))⟩),(9,⟨0,some (.box 36 (cCb i.2.1))⟩)]) (fun i=>i.1<=128/\i.2.2.length<=128 - i.1/\lessF b more i.1 i.2.1 i.2.2=lessF b more 128 a []) (fun i=>i.1) (128,a,[]) ⟨Nat.le_refl _,Nat.le_refl _,rfl⟩ jW jW fun i hi=>?_
  obtain ⟨n,rest,out⟩:=i
  obtain ⟨hn,hl,hf⟩:=hi
  simp only at hn hl hf
  refine jA ?_
  refine AW.cond rfl (fun h=>?_) (fun h=>?_)
  · obtain ⟨k,rfl⟩:∃k,n=k+1:=⟨n - 1,by have:=of_decide_eq_true h;simp only [Int.ofNat_eq_natCast] at this;omega⟩
    have hnx:AV.i .i64 (IntKind.i64.wrap ((((k+1:Nat):Int) - 1) - 1)) = .i .i64 ((k:Nat) - 1:Int):=by
      rw [IntKind.wrap_i64]
      congr 1
      omega
    have hk:(((k+1:Nat):Int) - 1)=(k:Nat):=by omega
    refine AW.only [(3,.own 3 0 0),(7,.row 7 0 0 (out.map cCb).length),(8,.own 8 0 0),(9,.own 9 0 0),(10,.i .i64 (k:Nat))] [(3,⟨0,some (.box 36 (cCb b))⟩),(7,⟨0,some (.row 36 4 (out.map cCb))⟩),(8,⟨0,some (.box 34 (cHd more))⟩),(9,⟨0,some (.box 36 (cCb rest))⟩)] ⟨Rn.ownIs rfl rfl rfl,Rn.rowIs rfl rfl rfl,Rn.ownIs rfl rfl rfl,Rn.ownIs rfl rfl rfl,.is (congrArg _ hk) rfl,trivial⟩ jW ?_
    have hb:=d_Bit more k (by omega)
    generalize hq:more.bit k=q at hb
    rw [lessF,hq] at hf
    refine jA ?_
    refine RG.callS rfl rfl rfl rfl rfl hb rfl rfl ?_;refine wH rfl ?_;refine jA ?_
    cases q
    · refine AW.condT rfl ?_;refine jA ?_
      refine AW.exit ?_;refine Eq.mpr (if_pos rfl) ?_;refine jA ?_
      exact ⟨(k,rest,out),⟨⟨(show k<=128 by omega),(show out.length<=128 - k by omega),hf⟩,Nat.lt_succ_self k⟩,⟨Rn.ownIs rfl rfl rfl,Rn.rowIs rfl rfl rfl,Rn.ownIs rfl rfl rfl,Rn.ownIs rfl rfl rfl,.is (i64_dec k (by omega)) rfl,trivial⟩,jW⟩
    · refine AW.condF rfl ?_;refine jA ?_
      refine RG.callS rfl rfl rfl rfl rfl (d_Mask k 1 (by omega)) rfl rfl ?_;refine wH rfl ?_;refine jA ?_
      refine RG.callS rfl rfl rfl rfl rfl (d_And b.value (maskH k 1)) rfl rfl ?_;refine wH rfl ?_;refine jA ?_
      refine RG.callS rfl rfl rfl rfl rfl (d_Or rest.value _) rfl rfl ?_;refine wH rfl ?_;refine jA ?_
      refine RG.callS rfl rfl rfl rfl rfl (d_Or rest.care (maskH k 1)) rfl rfl ?_;refine wH rfl ?_;refine jA ?_
      refine RG.callS rfl rfl rfl rfl rfl (d_Xor _ (maskH k 1)) rfl rfl ?_;refine wH rfl ?_;refine jA ?_
      refine RG.opS rfl (op_app1 cCb out ⟨(rest.value.or (b.value.and (maskH k 1))).xor (maskH k 1),rest.care.or (maskH k 1)⟩ (by omega) rfl rfl rfl rfl (tab_ok ty_ok rfl) rfl (tab_ok ty_ok rfl) rfl rfl ⟨_,rfl,rfl⟩ rfl rfl) rfl ?_;refine wH rfl ?_;refine jA ?_
      exact ⟨(k,_,_),⟨⟨by omega,by simp only [List.length_append,List.length_singleton];omega,hf⟩,Nat.lt_succ_self k⟩,⟨Rn.ownIs rfl rfl rfl,Rn.rowIs rfl rfl rfl,Rn.ownIs rfl rfl rfl,Rn.ownIs rfl rfl rfl,.is (i64_dec k (by omega)) rfl,trivial⟩,jW⟩
  · obtain rfl : n = 0 := by
      have:=of_decide_eq_false h
      simp only [Int.ofNat_eq_natCast] at this
      omega
    refine jA ?_
    refine AW.exit ?_;refine Eq.mpr (if_pos rfl) ?_;refine jA ?_
    refine AW.ret (retQA ty_ok rfl rfl rfl ?_)
    exact rowAll (congrArg (List.map cCb) hf)
end Go.Proofs.YtoaibdbehlcnfaaGreat.Sm
end
section
namespace Go.Proofs.YtoaibdbehlcnfaaGreat.Sm
open Go.RowKit
def Hd.b (h:Hd) (i:Nat):Bool:=if i<64 then h.lo.toBitVec.getLsbD i else h.hi.toBitVec.getLsbD (i - 64)
theorem Hd.b_hi (h:Hd) (i:Nat) (hi:128<=i):h.b i=false:=by
 rw [Hd.b,if_neg (by omega)]
 exact BitVec.getLsbD_of_ge _ _ (by omega)
theorem Hd.ext_b {h g:Hd} (H:∀i,h.b i=g.b i):h=g:=by
 obtain ⟨h1,h2⟩:=h
 obtain ⟨g1,g2⟩:=g
 rw [Hd.eq_iff]
 constructor
 ·apply UInt64.toBitVec_inj.1
  apply BitVec.eq_of_getLsbD_eq
  intro i hi
  have:=H (i+64)
  rw [Hd.b,Hd.b,if_neg (by omega),if_neg (by omega)] at this
  simpa using this
 ·apply UInt64.toBitVec_inj.1
  apply BitVec.eq_of_getLsbD_eq
  intro i hi
  have:=H i
  simpa [Hd.b,hi] using this
theorem Hd.b_and (x y:Hd) (i:Nat):(x.and y).b i=(x.b i && y.b i):=by
 simp only [Hd.b,Hd.and];split <;> simp
theorem Hd.b_or (x y:Hd) (i:Nat):(x.or y).b i=(x.b i || y.b i):=by
 simp only [Hd.b,Hd.or];split <;> simp
theorem Hd.b_xor (x y:Hd) (i:Nat):(x.xor y).b i=(x.b i ^^ y.b i):=by
 simp only [Hd.b,Hd.xor];split <;> simp
theorem gb_not (x y:BitVec 64) (i:Nat):(x &&& ~~~y).getLsbD i=(x.getLsbD i && !y.getLsbD i):=by
 rw [BitVec.getLsbD_and,BitVec.getLsbD_not]
 by_cases h:i<64
 ·simp [h]
 ·rw [BitVec.getLsbD_of_ge x i (by omega)];simp
theorem Hd.b_less (x y:Hd) (i:Nat):(x.less y).b i=(x.b i && !y.b i):=by
 simp only [Hd.b,Hd.less]
 split
 ·rw [<- gb_not];rfl
 ·rw [<- gb_not];rfl
theorem Hd.b_zero (i:Nat):Hd.zero.b i=false:=by
 simp only [Hd.b,Hd.zero];split <;> simp
theorem Hd.none_iff (h:Hd):h.none=true↔∀i,h.b i=false:=by
 rw [Hd.none,decide_eq_true_eq]
 exact ⟨fun e i=>by rw [e,Hd.b_zero],fun H=>Hd.ext_b fun i=>by rw [H,Hd.b_zero]⟩
theorem Cb.sound_iff (c:Cb):c.sound=true↔∀i,(c.value.b i && !c.care.b i)=false:=by
 rw [Cb.sound,Hd.none_iff];simp only [Hd.b_less]
theorem Cb.has_iff (c:Cb) (h:Hd):c.has h=true↔∀i,(h.b i && c.care.b i)=c.value.b i:=by
 rw [Cb.has,Bool.and_eq_true,Cb.sound_iff,decide_eq_true_eq]
 constructor
 ·intro ⟨_,e⟩ i
  rw [<- e,Hd.b_and]
 ·intro H
  refine ⟨fun i=>?_,Hd.ext_b fun i=>by rw [Hd.b_and,H]⟩
  have:=H i
  revert this
  cases h.b i <;> cases c.care.b i <;> cases c.value.b i <;> decide
theorem Cb.has_sound {c:Cb} {h:Hd} (H:c.has h=true):c.sound=true:=by
 rw [Cb.has,Bool.and_eq_true] at H;exact H.1
theorem Cb.has_zero (h:Hd):Cb.zero.has h=true:=by
 rw [Cb.has_iff];intro i;simp [Cb.zero,Hd.b_zero]
theorem Cb.has_value {c:Cb} (H:c.sound=true):c.has c.value=true:=by
 rw [Cb.sound_iff] at H
 rw [Cb.has_iff]
 intro i
 have:=H i
 revert this
 cases c.care.b i <;> cases c.value.b i <;> decide
theorem Cb.apart_b (a c:Cb) (i:Nat):(a.apart c).b i=((a.value.b i ^^ c.value.b i) && (a.care.b i && c.care.b i)):=by
 simp only [Cb.apart,Hd.b_and,Hd.b_xor]
theorem Cb.meets_iff (a c:Cb):a.meets c=true↔a.sound=true/\c.sound=true/\∀i,((a.value.b i ^^ c.value.b i) && (a.care.b i && c.care.b i))=false:=by
 rw [Cb.meets,Bool.and_eq_true,Bool.and_eq_true,Hd.none_iff,and_assoc];simp only [Cb.apart_b]
theorem Cb.meets_of {a c:Cb} {h:Hd} (h1:a.has h=true) (h2:c.has h=true):a.meets c=true:=by
 rw [Cb.meets_iff]
 refine ⟨Cb.has_sound h1,Cb.has_sound h2,fun i=>?_⟩
 have e1:=(Cb.has_iff _ _).1 h1 i
 have e2:=(Cb.has_iff _ _).1 h2 i
 rw [<- e1,<- e2]
 cases h.b i <;> cases a.care.b i <;> cases c.care.b i <;> rfl
theorem Cb.met_has {a c:Cb} {h:Hd} (hm:a.meets c=true):(a.met c).has h=(a.has h && c.has h):=by
 rw [Bool.eq_iff_iff,Bool.and_eq_true,Cb.has_iff,Cb.has_iff,Cb.has_iff]
 obtain ⟨s1,s2,m⟩:=(Cb.meets_iff _ _).1 hm
 rw [Cb.sound_iff] at s1 s2
 have key:∀i,((h.b i && (a.met c).care.b i)=(a.met c).value.b i)↔((h.b i && a.care.b i)=a.value.b i/\(h.b i && c.care.b i)=c.value.b i):=by
  intro i
  have e1:=s1 i
  have e2:=s2 i
  have e3:=m i
  simp only [Cb.met,Hd.b_or]
  revert e1 e2 e3
  cases h.b i <;> cases a.care.b i <;> cases a.value.b i <;> cases c.care.b i <;> cases c.value.b i <;> decide
 exact ⟨fun H=>⟨fun i=>((key i).1 (H i)).1,fun i=>((key i).1 (H i)).2⟩,fun H i=>(key i).2 ⟨H.1 i,H.2 i⟩⟩
theorem Cb.has_set (c set:Cb) (h:Hd):c.has (h.set set)=(c.hits set && (c.before set).has h):=by
 rw [Bool.eq_iff_iff,Bool.and_eq_true,Cb.has_iff,Cb.has_iff,Cb.hits,Bool.and_eq_true,Cb.sound_iff,Hd.none_iff]
 have key:∀i,(((h.set set).b i && c.care.b i)=c.value.b i)↔((c.value.b i && !c.care.b i)=false/\(c.apart (Cb.make set.value set.care)).b i=false)/\(h.b i && (c.before set).care.b i)=(c.before set).value.b i:=by
  intro i
  simp only [Cb.apart_b,Cb.before,Cb.make,Hd.set,Hd.b_and,Hd.b_or,Hd.b_less]
  cases h.b i <;> cases c.care.b i <;> cases c.value.b i <;> cases set.care.b i <;> cases set.value.b i <;> decide
 exact ⟨fun H=>⟨⟨fun i=>((key i).1 (H i)).1.1,fun i=>((key i).1 (H i)).1.2⟩,fun i=>((key i).1 (H i)).2⟩,fun H i=>(key i).2 ⟨⟨H.1.1 i,H.1.2 i⟩,H.2 i⟩⟩
theorem Cb.make_sound (v c:Hd):(Cb.make v c).sound=true:=by
 rw [Cb.sound_iff];intro i
 simp only [Cb.make,Hd.b_and]
 cases v.b i <;> cases c.b i <;> rfl
theorem Hd.set_zero (h:Hd):h.set Cb.zero=h:=by
 refine Hd.ext_b fun i=>?_
 simp [Hd.set,Cb.zero,Hd.b_or,Hd.b_less,Hd.b_and,Hd.b_zero]
theorem Cb.within_has {a c:Cb} (hw:a.within c=true) {h:Hd} (hh:a.has h=true):c.has h=true:=by
 rw [Cb.within] at hw
 simp only [Bool.and_eq_true,Hd.none_iff,Cb.apart_b,Hd.b_less] at hw
 obtain ⟨⟨⟨s1,s2⟩,h1⟩,h2⟩:=hw
 rw [Cb.sound_iff] at s1 s2
 rw [Cb.has_iff] at hh ⊢
 intro i
 have e1:=s1 i
 have e2:=s2 i
 have e3:=h1 i
 have e4:=h2 i
 have e5:=hh i
 revert e1 e2 e3 e4 e5
 cases h.b i <;> cases a.care.b i <;> cases a.value.b i <;> cases c.care.b i <;> cases c.value.b i <;> decide
def Cb.cares (c:Cb):Nat:=((List.range 128).filter fun i=>c.care.b i).length
theorem filter_le {α:Type} {p q:α->Bool}:∀(l:List α),(∀x∈l,p x=true->q x=true)->(l.filter p).length<=(l.filter q).length
  | [],_=>Nat.le_refl _
  | x::l,h=>by
    have ih:=filter_le l fun y hy=>h y (List.mem_cons_of_mem _ hy)
    have hx:=h x List.mem_cons_self
    cases hp:p x
    · rw [List.filter_cons_of_neg (by simp [hp])]
      cases hq:q x
      · rw [List.filter_cons_of_neg (by simp [hq])];exact ih
      · rw [List.filter_cons_of_pos hq];exact Nat.le_succ_of_le ih
    · rw [List.filter_cons_of_pos hp,List.filter_cons_of_pos (hx hp)]
      exact Nat.succ_le_succ ih
theorem filter_lt {α:Type} {p q:α->Bool}:∀(l:List α),(∀x∈l,p x=true->q x=true)->(∃x∈l,p x=false/\q x=true)->(l.filter p).length<(l.filter q).length
  | [],_,⟨_,h,_⟩=>by cases h
  | x::l,h,⟨y,hy,h1,h2⟩=>by
    have hx:=h x List.mem_cons_self
    have hl:=fun y hy=>h y (List.mem_cons_of_mem _ hy)
    rcases List.mem_cons.1 hy with rfl | hy
    · rw [List.filter_cons_of_neg (by simp [h1]),List.filter_cons_of_pos h2]
      exact Nat.lt_succ_of_le (filter_le l hl)
    · have ih:=filter_lt l hl ⟨y,hy,h1,h2⟩
      cases hp:p x
      · rw [List.filter_cons_of_neg (by simp [hp])]
        cases hq:q x
        · rw [List.filter_cons_of_neg (by simp [hq])];exact ih
        · rw [List.filter_cons_of_pos hq];exact Nat.lt_succ_of_lt ih
      · rw [List.filter_cons_of_pos hp,List.filter_cons_of_pos (hx hp)]
        exact Nat.succ_lt_succ ih
theorem Cb.within_cares {a c:Cb} (hw:a.within c=true):c.cares<=a.cares/\(a≠c->c.cares<a.cares):=by
 rw [Cb.within] at hw
 simp only [Bool.and_eq_true,Hd.none_iff,Cb.apart_b,Hd.b_less] at hw
 obtain ⟨⟨⟨s1,s2⟩,h1⟩,h2⟩:=hw
 rw [Cb.sound_iff] at s1 s2
 have hle:∀i,c.care.b i=true->a.care.b i=true:=by
  intro i h
  have:=h1 i
  rw [h] at this
  simpa using this
 refine ⟨filter_le _ fun i _ h=>hle i h,fun hne=>?_⟩
 refine filter_lt _ (fun i _ h=>hle i h) ?_
 refine Classical.byContradiction fun hn=>hne ?_
 have hc:a.care=c.care:=Hd.ext_b fun i=>by
  by_cases hi:i<128
  ·cases h:c.care.b i
   ·cases h':a.care.b i
    ·rfl
    ·exact (hn ⟨i,List.mem_range.2 hi,h,h'⟩).elim
   ·exact hle i h
  ·rw [Hd.b_hi _ _ (by omega),Hd.b_hi _ _ (by omega)]
 have hv:a.value=c.value:=Hd.ext_b fun i=>by
  have e1:=s1 i
  have e2:=s2 i
  have e4:=h2 i
  rw [hc] at e1 e4
  revert e1 e2 e4
  cases a.value.b i <;> cases c.care.b i <;> cases c.value.b i <;> decide
 exact (Cb.eq_iff _ _).2 ⟨hv,hc⟩
theorem one_b (k i:Nat) (hk:k<64):(shl64 1 k).toBitVec.getLsbD i=decide (i=k):=by
 have h:(shl64 1 k).toBitVec.toNat=2 ^ k:=by
  show (shl64 1 k).toNat=_
  rw [shl64,UInt64.toNat_ofNat',Nat.min_eq_left (by omega),show (1:UInt64).toNat=1 from rfl,Nat.one_mul]
  exact Nat.mod_eq_of_lt (Nat.pow_lt_pow_right (by omega) hk)
 rw [BitVec.getLsbD,h,Nat.testBit_two_pow]
 exact decide_eq_decide.2 eq_comm
theorem mask_is:∀k,k<128->maskH k 1=if k<64 then ⟨0,shl64 1 k⟩ else ⟨shl64 1 (k - 64),0⟩:=by decide
theorem mask_b (k i:Nat) (hk:k<128):(maskH k 1).b i=decide (i=k):=by
  rw [mask_is k hk]
  by_cases h:k<64
  · rw [if_pos h]
    by_cases hi:i<64
    · rw [Hd.b,if_pos hi];exact one_b k i h
    · rw [Hd.b,if_neg hi]
      rw [decide_eq_false (by omega)]
      exact BitVec.getLsbD_zero
  · rw [if_neg h]
    by_cases hi:i<64
    · rw [Hd.b,if_pos hi,decide_eq_false (by omega)]
      exact BitVec.getLsbD_zero
    · rw [Hd.b,if_neg hi]
      refine (one_b (k - 64) (i - 64) (by omega)).trans (decide_eq_decide.2 (by omega))
theorem shr_lo (a:UInt64) (k:Nat) (hk:k<64):decide (shr64 a k &&& 1=1)=a.toBitVec.getLsbD k:=by
 have h:(shr64 a k &&& 1).toNat=a.toNat / 2 ^ k % 2:=by
  rw [UInt64.toNat_and,shr64,UInt64.toNat_ofNat_of_lt' (Nat.lt_of_le_of_lt (Nat.div_le_self _ _) (UInt64.toNat_lt a)),Nat.min_eq_left (by omega)]
  exact Nat.and_one_is_mod _
 rw [BitVec.getLsbD,Nat.testBit_eq_decide_div_mod_eq]
 refine decide_eq_decide.2 ?_
 rw [<- UInt64.toNat_inj,h]
 rfl
theorem Hd.bit_b (a:Hd) (k:Nat) (hk:k<128):a.bit k=a.b k:=by
  rw [Hd.bit,Hd.right,Hd.b]
  by_cases h:64<=k
  · rw [if_pos h,if_neg (by omega)]
    exact shr_lo a.hi (k - 64) (by omega)
  · rw [if_neg h,if_pos (by omega)]
    rw [<- shr_lo a.lo k (by omega)]
    refine decide_eq_decide.2 ?_
    rw [<- UInt64.toNat_inj,<- UInt64.toNat_inj,UInt64.toNat_and,UInt64.toNat_and,UInt64.toNat_or,show (1:UInt64).toNat=1 from rfl,Nat.and_one_is_mod,Nat.and_one_is_mod,Nat.or_mod_two_eq_one]
    have h2:(shl64 a.hi (64 - k)).toNat % 2=0:=by
      rw [shl64,UInt64.toNat_ofNat',Nat.min_eq_left (by omega),show 64 - k=(63 - k)+1 by omega,Nat.pow_succ,<- Nat.mul_assoc]
      generalize a.hi.toNat*2 ^ (63 - k)=q
      omega
    omega
theorem lessF_has (c : Cb) (hc : c.sound = true) (more : Hd) (h : Hd) : ∀ (n : Nat) (rest : Cb) (out : List Cb), n <= 128 -> rest.sound = true -> (∀ i < n, more.b i = true -> rest.care.b i = false /\ c.care.b i = true) ->
    ((∃x∈lessF c more n rest out,x.has h=true)↔(∃x∈out,x.has h=true)\/(rest.has h=true/\∃i<n,more.b i=true/\h.b i≠c.value.b i))
  | 0,rest,out,hn,hr,hm=>by
    rw [lessF]
    exact ⟨Or.inl,fun H=>H.elim id fun ⟨_,i,hi,_⟩=>absurd hi (Nat.not_lt_zero i)⟩
  | n+1,rest,out,hn,hr,hm=>by
    rw [lessF,Hd.bit_b more n (by omega)]
    cases hb:more.b n
    · rw [cond_false,lessF_has c hc more h n rest out (by omega) hr fun i hi=>hm i (by omega)]
      refine or_congr Iff.rfl (and_congr Iff.rfl ⟨fun ⟨i,hi,H⟩=>⟨i,by omega,H⟩,fun ⟨i,hi,H⟩=>⟨i,?_,H⟩⟩)
      have:i≠n:=fun e=>by rw [e,hb] at H;exact Bool.false_ne_true H.1
      omega
    · have hcare:=(hm n (by omega) hb).1
      have hcc:=(hm n (by omega) hb).2
      rw [Cb.sound_iff] at hr
      have hval:rest.value.b n=false:=by
        have:=hr n
        rw [hcare] at this
        simpa using this
      have s1:(Cb.mk (rest.value.or (c.value.and (maskH n 1))) (rest.care.or (maskH n 1))).sound=true:=by
        rw [Cb.sound_iff]
        intro i
        have:=hr i
        simp only [Hd.b_or,Hd.b_and,mask_b n i (by omega)]
        revert this
        by_cases e:i=n
        · simp [e]
        · simp [e]
      have h1:(Cb.mk (rest.value.or (c.value.and (maskH n 1))) (rest.care.or (maskH n 1))).has h=true↔rest.has h=true/\h.b n=c.value.b n:=by
        rw [Cb.has_iff,Cb.has_iff]
        simp only [Hd.b_or,Hd.b_and,mask_b n _ (show n<128 by omega)]
        constructor
        · intro H
          constructor
          · intro i
            have:=H i
            by_cases e:i=n
            · rw [e,hcare,hval];simp
            · simpa [e] using this
          · have:=H n
            simpa [hval,hcare] using this
        · intro ⟨H,e0⟩ i
          have:=H i
          by_cases e:i=n
          · rw [e,hval,hcare,e0];simp
          · simpa [e] using this
      have h2:(Cb.mk ((rest.value.or (c.value.and (maskH n 1))).xor (maskH n 1)) (rest.care.or (maskH n 1))).has h=true↔rest.has h=true/\h.b n≠c.value.b n:=by
        rw [Cb.has_iff,Cb.has_iff]
        simp only [Hd.b_or,Hd.b_and,Hd.b_xor,mask_b n _ (show n<128 by omega)]
        constructor
        · intro H
          constructor
          · intro i
            have:=H i
            by_cases e:i=n
            · rw [e,hcare,hval];simp
            · simpa [e] using this
          · have:=H n
            rw [hval,hcare,decide_eq_true (rfl:n=n)] at this
            revert this
            cases h.b n <;> cases c.value.b n <;> decide
        · intro ⟨H,e0⟩ i
          have:=H i
          by_cases e:i=n
          · rw [e,hval,hcare,decide_eq_true (rfl:n=n)]
            revert e0
            cases h.b n <;> cases c.value.b n <;> decide
          · simpa [e] using this
      rw [cond_true,lessF_has c hc more h n _ _ (by omega) s1 fun i hi hmi=>⟨by
        have:=(hm i (by omega) hmi).1
        simp [Hd.b_or,mask_b n i (by omega),this,show ¬i=n by omega],(hm i (by omega) hmi).2⟩]
      rw [h1]
      constructor
      · rintro (⟨x,hx,hh⟩ | ⟨⟨g1,g2⟩,i,hi,H⟩)
        · rcases List.mem_append.1 hx with hx | hx
          · exact Or.inl ⟨x,hx,hh⟩
          · rw [List.mem_singleton.1 hx] at hh
            exact Or.inr ⟨(h2.1 hh).1,n,by omega,hb,(h2.1 hh).2⟩
        · exact Or.inr ⟨g1,i,by omega,H⟩
      · rintro (⟨x,hx,hh⟩ | ⟨g1,i,hi,H⟩)
        · exact Or.inl ⟨x,List.mem_append_left _ hx,hh⟩
        · by_cases e:h.b n=c.value.b n
          · have:i≠n:=fun e'=>by rw [e'] at H;exact H.2 e
            exact Or.inr ⟨⟨g1,e⟩,i,by omega,H⟩
          · exact Or.inl ⟨_,List.mem_append_right _ (List.mem_singleton.2 rfl),h2.2 ⟨g1,e⟩⟩
theorem Cb.less_has (a c:Cb) (h:Hd) (ha:a.sound=true) (hc:c.sound=true):(∃x∈a.less c,x.has h=true)↔a.has h=true/\c.has h=false:=by
 rw [Cb.less,ha,hc,Bool.and_true,cond_true]
 cases hm:a.meets c
 ·rw [cond_false]
  constructor
  ·rintro ⟨x,hx,hh⟩
   rw [List.mem_singleton.1 hx] at hh
   refine ⟨hh,?_⟩
   cases hq:c.has h
   ·rfl
   ·rw [Cb.meets_of hh hq] at hm;cases hm
  ·exact fun H=>⟨a,List.mem_singleton.2 rfl,H.1⟩
 ·rw [cond_true,lessF_has c hc _ h 128 a [] (Nat.le_refl _) ha fun i _ H=>by
   rw [Hd.b_less] at H
   revert H
   cases c.care.b i <;> cases a.care.b i <;> decide]
  obtain ⟨_,_,m⟩:=(Cb.meets_iff _ _).1 hm
  constructor
  ·rintro (⟨x,hx,_⟩ | ⟨g1,i,hi,g2,g3⟩)
   ·cases hx
   ·refine ⟨g1,?_⟩
    cases hq:c.has h
    ·rfl
    ·have e:=(Cb.has_iff _ _).1 hq i
     rw [Hd.b_less] at g2
     revert g2 g3 e
     cases c.care.b i <;> cases a.care.b i <;> cases h.b i <;> cases c.value.b i <;> decide
  ·rintro ⟨g1,g2⟩
   refine Or.inr ⟨g1,Classical.byContradiction fun hn=>?_⟩
   have:c.has h=true:=by
    rw [Cb.has_iff]
    intro i
    have e1:=(Cb.has_iff _ _).1 g1 i
    have e2:=m i
    have e3:=(Cb.sound_iff _).1 hc i
    by_cases hi:i<128
    ·by_cases hmo:(c.care.less a.care).b i=true
     ·have e4:h.b i=c.value.b i:=Classical.byContradiction fun hne=>hn ⟨i,hi,hmo,hne⟩
      rw [Hd.b_less] at hmo
      revert e1 e2 e3 e4 hmo
      cases c.care.b i <;> cases a.care.b i <;> cases h.b i <;> cases c.value.b i <;> cases a.value.b i <;> decide
     ·rw [Hd.b_less] at hmo
      revert e1 e2 e3 hmo
      cases c.care.b i <;> cases a.care.b i <;> cases h.b i <;> cases c.value.b i <;> cases a.value.b i <;> decide
    ·rw [Hd.b_hi _ _ (by omega),Hd.b_hi _ _ (by omega),Hd.b_hi _ _ (by omega)];rfl
   rw [this] at g2
   cases g2
end Go.Proofs.YtoaibdbehlcnfaaGreat.Sm
end
section
namespace Go.Proofs.YtoaibdbehlcnfaaGreat.Sm
open Go.RowKit
def accI {α β:Type} (f:Nat->α->List β):Nat->List α->List β->List β
 | _,[],out=>out
 | n,x::l,out=>accI f (n+1) l (out++f n x)
theorem accI_eq {α β:Type} {f:Nat->α->List β}:∀(n:Nat) (l:List α) (out:List β),accI f n l out=out++accI f n l []
 | n,[],out=>by rw [accI,accI,List.append_nil]
 | n,x::l,out=>by rw [accI,accI,accI_eq (n+1) l (out++f n x),accI_eq (n+1) l ([]++f n x),List.nil_append,List.append_assoc]
theorem accI_mem {α β:Type} {f:Nat->α->List β} {y:β}:∀(n:Nat) (l:List α),y∈accI f n l []↔∃(i:Nat) (x:α),l[i]?=some x/\y∈f (n+i) x
 | n,[]=>by simp [accI]
 | n,x::l=>by
  rw [accI,accI_eq,List.nil_append,List.mem_append,accI_mem (n+1) l]
  constructor
  ·rintro (h | ⟨i,z,hz,h⟩)
   ·exact ⟨0,x,rfl,h⟩
   ·exact ⟨i+1,z,hz,by rw [show n+(i+1)=n+1+i by omega];exact h⟩
  ·rintro ⟨i,z,hz,h⟩
   cases i with
   | zero=>rw [List.getElem?_cons_zero] at hz;rw [Option.some.inj hz];exact Or.inl h
   | succ i=>exact Or.inr ⟨i,z,hz,by rw [show n+1+i=n+(i+1) by omega];exact h⟩
theorem accI_len {α β:Type} {f:Nat->α->List β} {m:Nat} (hf:∀n x,(f n x).length<=m):∀(n:Nat) (l:List α) (out:List β),(accI f n l out).length<=out.length+m*l.length
 | n,[],out=>by simp [accI]
 | n,x::l,out=>by
  have:=accI_len hf (n+1) l (out++f n x)
  have h2:=hf n x
  rw [List.length_append] at this
  rw [accI,List.length_cons,Nat.mul_add,Nat.mul_one]
  omega
def pileSound (p:List Cb):Bool:=decide (p.length<=200) && p.all Cb.sound
def pileHas (p:List Cb) (h:Hd):Bool:=p.any fun c=>c.has h
theorem pileHas_iff {p:List Cb} {h:Hd}:pileHas p h=true↔∃x∈p,x.has h=true:=by simp [pileHas]
def spareF (x:Cb) (n:Nat):Nat->List Cb->Bool
 | _,[]=>!x.sound
 | i,c::r=>bif decide (i≠n) && x.within c && (decide (x≠c) || decide (i<n)) then true else spareF x n (i+1) r
theorem spareF_no {x:Cb} {n:Nat}:∀{i:Nat} {l:List Cb},spareF x n i l=false->x.sound=true
 | i,[],h=>by simpa [spareF] using h
 | i,c::r,h=>by
  rw [spareF] at h
  cases hb:(decide (i≠n) && x.within c && (decide (x≠c) || decide (i<n)))
  ·rw [hb,cond_false] at h;exact spareF_no h
  ·rw [hb] at h;cases h
theorem spareF_yes {x:Cb} {n:Nat}:∀{i:Nat} {l:List Cb},spareF x n i l=true->x.sound=false\/∃j c,l[j]?=some c/\x.within c=true/\(x≠c\/i+j<n)
 | i,[],h=>by left;simpa [spareF] using h
 | i,c::r,h=>by
  rw [spareF] at h
  cases hb:(decide (i≠n) && x.within c && (decide (x≠c) || decide (i<n)))
  ·rw [hb,cond_false] at h
   rcases spareF_yes h with h | ⟨j,d,h1,h2,h3⟩
   ·exact Or.inl h
   ·exact Or.inr ⟨j+1,d,h1,h2,h3.imp id fun h=>by omega⟩
  ·simp only [Bool.and_eq_true,Bool.or_eq_true,decide_eq_true_eq] at hb
   exact Or.inr ⟨0,c,rfl,hb.1.2,hb.2⟩
def leanI (p:List Cb) (n:Nat) (c:Cb):List Cb:=bif spareF c n 0 p then [] else [c]
def leanP (p:List Cb):List Cb:=accI (leanI p) 0 p []
theorem leanP_mem {p:List Cb} {x:Cb}:x∈leanP p↔∃n,p[n]?=some x/\spareF x n 0 p=false:=by
 rw [leanP,accI_mem]
 constructor
 ·rintro ⟨i,y,hy,h⟩
  rw [Nat.zero_add,leanI] at h
  cases hs:spareF y i 0 p
  ·rw [hs,cond_false] at h
   rw [List.mem_singleton.1 h]
   exact ⟨i,hy,hs⟩
  ·rw [hs] at h;cases h
 ·rintro ⟨n,h1,h2⟩
  refine ⟨n,x,h1,?_⟩
  rw [Nat.zero_add,leanI,h2]
  exact List.mem_singleton.2 rfl
theorem leanP_sound {p:List Cb}:∀x∈leanP p,x.sound=true:=fun x hx=>by
 obtain ⟨n,_,h⟩:=leanP_mem.1 hx
 exact spareF_no h
theorem leanP_has {p:List Cb} {h:Hd}:pileHas (leanP p) h=pileHas p h:=by
 rw [Bool.eq_iff_iff,pileHas_iff,pileHas_iff]
 constructor
 ·rintro ⟨x,hx,hh⟩
  obtain ⟨n,hn,_⟩:=leanP_mem.1 hx
  exact ⟨x,List.mem_of_getElem? hn,hh⟩
 ·rintro ⟨x,hx,hh⟩
  have key:∀(m:Nat) (x:Cb) (n:Nat),p[n]?=some x->x.has h=true->x.cares*(p.length+1)+n<=m->∃x∈leanP p,x.has h=true:=by
   intro m
   induction m with
   | zero =>
    intro x n h1 h2 h3
    cases hs:spareF x n 0 p
    ·exact ⟨x,leanP_mem.2 ⟨n,h1,hs⟩,h2⟩
    ·rcases spareF_yes hs with g | ⟨j,c,g1,g2,g3⟩
     ·rw [Cb.has_sound h2] at g;cases g
     ·exfalso
      have hc:=Cb.within_cares g2
      have hn:n=0:=by omega
      have hx0:x.cares*(p.length+1)=0:=by omega
      rcases g3 with g3 | g3
      ·have:=hc.2 g3
       have:1*(p.length+1)<=x.cares*(p.length+1):=Nat.mul_le_mul_right _ (by omega)
       omega
      ·omega
   | succ m ih =>
    intro x n h1 h2 h3
    cases hs:spareF x n 0 p
    ·exact ⟨x,leanP_mem.2 ⟨n,h1,hs⟩,h2⟩
    ·rcases spareF_yes hs with g | ⟨j,c,g1,g2,g3⟩
     ·rw [Cb.has_sound h2] at g;cases g
     ·have hc:=Cb.within_cares g2
      have hj:j<p.length:=(List.getElem?_eq_some_iff.1 g1).1
      refine ih c j g1 (Cb.within_has g2 h2) ?_
      by_cases e:x=c
      ·subst e
       have:j<n:=by
        rcases g3 with g3 | g3
        ·exact absurd rfl g3
        ·omega
       omega
      ·have:=hc.2 e
       have:(c.cares+1)*(p.length+1)<=x.cares*(p.length+1):=Nat.mul_le_mul_right _ (by omega)
       rw [Nat.add_mul,Nat.one_mul] at this
       omega
  obtain ⟨n,hn⟩:=List.mem_iff_getElem?.1 hx
  exact key _ x n hn hh (Nat.le_refl _)
theorem leanP_len (p:List Cb):(leanP p).length<=p.length:=by
 have:=accI_len (f:=leanI p) (m:=1) (fun n x=>by rw [leanI];cases spareF x n 0 p <;> simp) 0 p []
 simpa [leanP] using this
def leanE (p:List Cb):List Cb × Int:=bif decide ((leanP p).length>200) then ([],10) else (leanP p,0)
theorem leanE_err {p:List Cb} (h:(leanE p).2≠0):leanE p=([],10):=by
 rw [leanE] at h ⊢
 cases hb:decide ((leanP p).length>200)
 ·rw [hb] at h;exact absurd rfl h
 ·rfl
theorem leanE_ok {p:List Cb} (h:(leanE p).2=0):leanE p=(leanP p,0)/\(leanP p).length<=200:=by
 rw [leanE] at h ⊢
 cases hb:decide ((leanP p).length>200)
 ·exact ⟨rfl,by have:=of_decide_eq_false hb;omega⟩
 ·rw [hb] at h;cases h
theorem leanE_sound {p:List Cb}:pileSound (leanE p).1=true:=by
 by_cases h:(leanE p).2=0
 ·obtain ⟨e,hl⟩:=leanE_ok h
  rw [e,pileSound,Bool.and_eq_true,decide_eq_true_eq,List.all_eq_true]
  exact ⟨hl,leanP_sound⟩
 ·rw [leanE_err h];rfl
def meetI (x:Cb) (n:Nat) (y:Cb):List Cb:=bif x.meets y then [x.met y] else []
def meetRow (q:List Cb) (n:Nat) (x:Cb):List Cb:=accI (meetI x) 0 q []
def meetAll (p q:List Cb):List Cb:=accI (meetRow q) 0 p []
def pileMeet (p q:List Cb):List Cb × Int:=bif pileSound p && pileSound q then leanE (meetAll p q) else ([],2)
theorem meetAll_has {p q:List Cb} {h:Hd}:pileHas (meetAll p q) h=(pileHas p h && pileHas q h):=by
 rw [Bool.eq_iff_iff,Bool.and_eq_true,pileHas_iff,pileHas_iff,pileHas_iff]
 constructor
 ·rintro ⟨x,hx,hh⟩
  obtain ⟨i,y,hy,hx⟩:=(accI_mem _ _).1 hx
  obtain ⟨j,z,hz,hx⟩:=(accI_mem _ _).1 hx
  rw [meetI] at hx
  cases hm:y.meets z
  ·rw [hm] at hx;cases hx
  ·rw [hm,cond_true] at hx
   rw [List.mem_singleton.1 hx,Cb.met_has hm,Bool.and_eq_true] at hh
   exact ⟨⟨y,List.mem_of_getElem? hy,hh.1⟩,⟨z,List.mem_of_getElem? hz,hh.2⟩⟩
 ·rintro ⟨⟨y,hy,h1⟩,⟨z,hz,h2⟩⟩
  obtain ⟨i,hi⟩:=List.mem_iff_getElem?.1 hy
  obtain ⟨j,hj⟩:=List.mem_iff_getElem?.1 hz
  have hm:=Cb.meets_of h1 h2
  refine ⟨y.met z,(accI_mem _ _).2 ⟨i,y,hi,(accI_mem _ _).2 ⟨j,z,hj,?_⟩⟩,by rw [Cb.met_has hm,h1,h2];rfl⟩
  rw [meetI,hm]
  exact List.mem_singleton.2 rfl
def lessRow (y:Cb) (n:Nat) (x:Cb):List Cb:=x.less y
def lessAll (y:Cb) (out:List Cb):List Cb:=accI (lessRow y) 0 out []
def lessL:List Cb->List Cb->List Cb × Int
 | out,[]=>(out,0)
 | out,y::q=>bif decide ((leanE (lessAll y out)).2=0) then lessL (leanE (lessAll y out)).1 q else ([],(leanE (lessAll y out)).2)
def pileLess (p q:List Cb):List Cb × Int:=bif pileSound p && pileSound q then lessL p q else ([],2)
theorem lessAll_has {y:Cb} {out:List Cb} {h:Hd} (ho:∀x∈out,x.sound=true) (hy:y.sound=true):pileHas (lessAll y out) h=(pileHas out h && !y.has h):=by
 rw [Bool.eq_iff_iff,Bool.and_eq_true,pileHas_iff,pileHas_iff]
 constructor
 ·rintro ⟨x,hx,hh⟩
  obtain ⟨i,z,hz,hx⟩:=(accI_mem _ _).1 hx
  have hz:=List.mem_of_getElem? hz
  obtain ⟨g1,g2⟩:=(Cb.less_has z y h (ho z hz) hy).1 ⟨x,hx,hh⟩
  exact ⟨⟨z,hz,g1⟩,by rw [g2];rfl⟩
 ·rintro ⟨⟨z,hz,g1⟩,g2⟩
  obtain ⟨x,hx,hh⟩:=(Cb.less_has z y h (ho z hz) hy).2 ⟨g1,by simpa using g2⟩
  obtain ⟨i,hi⟩:=List.mem_iff_getElem?.1 hz
  exact ⟨x,(accI_mem _ _).2 ⟨i,z,hi,hx⟩,hh⟩
theorem lessL_err:∀(q out:List Cb),(lessL out q).2≠0->lessL out q=([],10)
 | [],out,h=>absurd rfl h
 | y::q,out,h=>by
  rw [lessL] at h ⊢
  by_cases e:(leanE (lessAll y out)).2=0
  ·rw [decide_eq_true e,cond_true] at h ⊢
   exact lessL_err q _ h
  ·rw [decide_eq_false e,cond_false,leanE_err e]
theorem lessL_ok:∀(q out:List Cb),(lessL out q).2=0->(∀y∈q,y.sound=true)->pileSound out=true->pileSound (lessL out q).1=true/\∀h,pileHas (lessL out q).1 h=(pileHas out h && !pileHas q h)
 | [],out,_,_,ho=>⟨ho,fun h=>by simp [lessL,pileHas]⟩
 | y::q,out,h,hq,ho=>by
  rw [lessL] at h ⊢
  by_cases e:(leanE (lessAll y out)).2=0
  ·rw [decide_eq_true e,cond_true] at h ⊢
   obtain ⟨g1,g2⟩:=lessL_ok q _ h (fun y hy=>hq y (List.mem_cons_of_mem _ hy)) leanE_sound
   refine ⟨g1,fun hd=>?_⟩
   rw [g2,(leanE_ok e).1]
   show (pileHas (leanP (lessAll y out)) hd && _)=_
   have ho':∀x∈out,x.sound=true:=by
    rw [pileSound,Bool.and_eq_true,List.all_eq_true] at ho
    exact ho.2
   rw [leanP_has,lessAll_has ho' (hq y List.mem_cons_self)]
   simp only [pileHas,List.any_cons]
   cases out.any (fun c=>c.has hd) <;> cases y.has hd <;> cases q.any (fun c=>c.has hd) <;> rfl
  ·rw [decide_eq_false e,cond_false] at h
   exact absurd h e
def pick (p:List Cb):Option Cb:=p.find? Cb.sound
theorem pick_sound {p:List Cb} (h:pileSound p=true):pick p=p.head?:=by
 rw [pileSound,Bool.and_eq_true,List.all_eq_true] at h
 cases p with
 | nil=>rfl
 | cons x l=>rw [pick,List.find?_cons_of_pos (h.2 x List.mem_cons_self)];rfl
def partIn (a:Atom) (id:Int) (c:Cb):List Cb->List Atom
 | []=>[]
 | x::p=>[⟨a.ids++[id],x.value,x::p⟩]
def partOut (a:Atom):List Cb->List Atom
 | []=>[]
 | x::p=>[⟨a.ids,x.value,x::p⟩]
def partA (a:Atom) (id:Int) (c:Cb):List Atom × Int :=
 bif decide ((pileMeet a.pile [c]).2=0) then (bif decide ((pileLess a.pile [c]).2=0) then (partIn a id c (pileMeet a.pile [c]).1++partOut a (pileLess a.pile [c]).1,0) else ([],(pileLess a.pile [c]).2)) else ([],(pileMeet a.pile [c]).2)
def splitL (id:Int) (c:Cb):List Atom->List Atom->List Atom × Int
 | [],out=>bif decide (out.length>600) then ([],11) else (out,0)
 | a::l,out=>bif decide ((partA a id c).2=0) then splitL id c l (out++(partA a id c).1) else ([],(partA a id c).2)
def splitF:Nat->List Cb->List Atom->List Atom × Int
 | _,[],out=>(out,0)
 | id,c::l,out=>bif decide ((splitL id c out []).2=0) then splitF (id+1) l (splitL id c out []).1 else ([],(splitL id c out []).2)
def atom0:Atom:=⟨[],Hd.zero,[Cb.zero]⟩
def atomsOf (preds:List Cb):List Atom × Int:=bif decide (preds.length>500) then ([],6) else bif preds.all Cb.sound then splitF 0 preds [atom0] else ([],2)
structure AtomOk (n:Nat) (a:Atom):Prop where
 pile:pileSound a.pile=true
 ids:∀i∈a.ids,i<n
 up:a.ids.Pairwise (· < ·)
theorem single_sound {c:Cb} (h:c.sound=true):pileSound [c]=true:=by simp [pileSound,h]
theorem pileMeet_ok {p:List Cb} {c:Cb} (hp:pileSound p=true) (hc:c.sound=true):((pileMeet p [c]).2=0\/pileMeet p [c]=([],10))/\((pileMeet p [c]).2=0->pileSound (pileMeet p [c]).1=true/\∀h,pileHas (pileMeet p [c]).1 h=(pileHas p h && c.has h)):=by
 rw [pileMeet,hp,single_sound hc,Bool.and_true,cond_true]
 refine ⟨?_,fun e=>⟨leanE_sound,fun h=>?_⟩⟩
 ·by_cases e:(leanE (meetAll p [c])).2=0
  ·exact Or.inl e
  ·exact Or.inr (leanE_err e)
 ·rw [(leanE_ok e).1]
  show pileHas (leanP _) h=_
  rw [leanP_has,meetAll_has]
  simp [pileHas]
theorem pileLess_ok {p:List Cb} {c:Cb} (hp:pileSound p=true) (hc:c.sound=true):((pileLess p [c]).2=0\/pileLess p [c]=([],10))/\((pileLess p [c]).2=0->pileSound (pileLess p [c]).1=true/\∀h,pileHas (pileLess p [c]).1 h=(pileHas p h && !c.has h)):=by
  rw [pileLess,hp,single_sound hc,Bool.and_true,cond_true]
  refine ⟨?_,fun e=>?_⟩
  · by_cases e:(lessL p [c]).2=0
    · exact Or.inl e
    · exact Or.inr (lessL_err _ _ e)
  · obtain ⟨g1,g2⟩:=lessL_ok [c] p e (fun y hy=>by rw [List.mem_singleton.1 hy];exact hc) hp
    exact ⟨g1,fun h=>by rw [g2];simp [pileHas]⟩
structure Parts (cs:List Cb) (l:List Atom):Prop where
 all:∀h,∃a∈l,pileHas a.pile h=true
 like:∀a∈l,∀h g,pileHas a.pile h=true->pileHas a.pile g=true->∀c∈cs,c.has h=c.has g
 ok:∀a∈l,AtomOk cs.length a
 head:∀a∈l,pileHas a.pile a.head=true
 len:l.length<=600
theorem partA_mem {a:Atom} {id:Int} {c:Cb} {x:Atom} (h0:(partA a id c).2=0) (hp:pileSound a.pile=true) (hc:c.sound=true) (hx:x∈(partA a id c).1) :
  pileSound x.pile=true/\pileHas x.pile x.head=true/\((x.ids=a.ids++[id]/\∀h,pileHas x.pile h=(pileHas a.pile h && c.has h))\/(x.ids=a.ids/\∀h,pileHas x.pile h=(pileHas a.pile h && !c.has h))):=by
 rw [partA] at h0 hx
 by_cases e1:(pileMeet a.pile [c]).2=0
 ·by_cases e2:(pileLess a.pile [c]).2=0
  ·rw [decide_eq_true e1,decide_eq_true e2,cond_true,cond_true] at hx
   obtain ⟨m1,m2⟩:=(pileMeet_ok hp hc).2 e1
   obtain ⟨l1,l2⟩:=(pileLess_ok hp hc).2 e2
   have hd:∀(y:Cb) (p:List Cb),pileSound (y::p)=true->pileHas (y::p) y.value=true:=by
    intro y p h
    rw [pileSound,Bool.and_eq_true,List.all_eq_true] at h
    rw [pileHas_iff]
    exact ⟨y,List.mem_cons_self,Cb.has_value (h.2 y List.mem_cons_self)⟩
   rcases List.mem_append.1 hx with hx | hx
   ·revert hx m1 m2
    generalize (pileMeet a.pile [c]).1=p
    intro m1 m2 hx
    cases p with
    | nil=>cases hx
    | cons y p =>
     rw [partIn] at hx
     rw [List.mem_singleton.1 hx]
     exact ⟨m1,hd y p m1,Or.inl ⟨rfl,m2⟩⟩
   ·revert hx l1 l2
    generalize (pileLess a.pile [c]).1=p
    intro m1 m2 hx
    cases p with
    | nil=>cases hx
    | cons y p =>
     rw [partOut] at hx
     rw [List.mem_singleton.1 hx]
     exact ⟨m1,hd y p m1,Or.inr ⟨rfl,m2⟩⟩
  ·rw [decide_eq_true e1,decide_eq_false e2,cond_true,cond_false] at h0
   exact absurd h0 e2
 ·rw [decide_eq_false e1,cond_false] at h0
  exact absurd h0 e1
theorem partA_all {a:Atom} {id:Int} {c:Cb} {h:Hd} (h0:(partA a id c).2=0) (hp:pileSound a.pile=true) (hc:c.sound=true) (hh:pileHas a.pile h=true):∃x∈(partA a id c).1,pileHas x.pile h=true:=by
 rw [partA] at h0 ⊢
 by_cases e1:(pileMeet a.pile [c]).2=0
 ·by_cases e2:(pileLess a.pile [c]).2=0
  ·rw [decide_eq_true e1,decide_eq_true e2,cond_true,cond_true]
   have m2:=((pileMeet_ok hp hc).2 e1).2 h
   have l2:=((pileLess_ok hp hc).2 e2).2 h
   rw [hh] at m2 l2
   cases hq:c.has h
   ·rw [hq] at l2
    revert l2
    generalize (pileLess a.pile [c]).1=p
    intro l2
    cases p with
    | nil=>cases l2
    | cons y p=>exact ⟨_,List.mem_append_right _ (List.mem_singleton.2 rfl),l2⟩
   ·rw [hq] at m2
    revert m2
    generalize (pileMeet a.pile [c]).1=p
    intro l2
    cases p with
    | nil=>cases l2
    | cons y p=>exact ⟨_,List.mem_append_left _ (List.mem_singleton.2 rfl),l2⟩
  ·rw [decide_eq_true e1,decide_eq_false e2,cond_true,cond_false] at h0
   exact absurd h0 e2
 ·rw [decide_eq_false e1,cond_false] at h0
  exact absurd h0 e1
theorem partA_err {a:Atom} {id:Int} {c:Cb} (hp:pileSound a.pile=true) (hc:c.sound=true):(partA a id c).2=0\/partA a id c=([],10):=by
 rw [partA]
 rcases (pileMeet_ok hp hc).1 with e1 | e1
 ·rw [decide_eq_true e1,cond_true]
  rcases (pileLess_ok hp hc).1 with e2 | e2
  ·rw [decide_eq_true e2];exact Or.inl rfl
  ·rw [e2];exact Or.inr rfl
 ·rw [e1];exact Or.inr rfl
theorem splitL_ok {id:Int} {c:Cb} (hc:c.sound=true):∀(l out:List Atom),(∀a∈l,pileSound a.pile=true)->((splitL id c l out).2=0\/splitL id c l out=([],10)\/splitL id c l out=([],11)) /\
  ((splitL id c l out).2=0->(splitL id c l out).1.length<=600/\(∀x∈(splitL id c l out).1,x∈out\/∃a∈l,(partA a id c).2=0/\x∈(partA a id c).1)/\(∀x∈out,x∈(splitL id c l out).1)/\(∀a∈l,(partA a id c).2=0/\∀x∈(partA a id c).1,x∈(splitL id c l out).1))
 | [],out,hl=>by
  rw [splitL]
  by_cases e:out.length>600
  ·rw [decide_eq_true e]
   exact ⟨Or.inr (Or.inr rfl),fun h=>by cases h⟩
  ·rw [decide_eq_false e]
   exact ⟨Or.inl rfl,fun _=>⟨by show out.length<=600;omega,fun x hx=>Or.inl hx,fun x hx=>hx,fun a ha=>by cases ha⟩⟩
 | a::l,out,hl=>by
  rw [splitL]
  rcases partA_err (id:=id) (hl a List.mem_cons_self) hc with e | e
  ·rw [decide_eq_true e,cond_true]
   obtain ⟨g1,g2⟩:=splitL_ok hc l (out++(partA a id c).1) fun b hb=>hl b (List.mem_cons_of_mem _ hb)
   refine ⟨g1,fun h0=>?_⟩
   obtain ⟨k1,k2,k3,k4⟩:=g2 h0
   refine ⟨k1,fun x hx=>?_,fun x hx=>k3 x (List.mem_append_left _ hx),fun b hb=>?_⟩
   ·rcases k2 x hx with hx | ⟨b,hb,h⟩
    ·rcases List.mem_append.1 hx with hx | hx
     ·exact Or.inl hx
     ·exact Or.inr ⟨a,List.mem_cons_self,e,hx⟩
    ·exact Or.inr ⟨b,List.mem_cons_of_mem _ hb,h⟩
   ·rcases List.mem_cons.1 hb with rfl | hb
    ·exact ⟨e,fun x hx=>k3 x (List.mem_append_right _ hx)⟩
    ·exact k4 b hb
  ·rw [e]
   exact ⟨Or.inr (Or.inl rfl),fun h=>by cases h⟩
theorem splitF_ok:∀(l cs:List Cb) (out:List Atom),(∀c∈l,c.sound=true)->Parts cs out->((splitF cs.length l out).2=0\/splitF cs.length l out=([],10)\/splitF cs.length l out=([],11))/\((splitF cs.length l out).2=0->Parts (cs++l) (splitF cs.length l out).1)
 | [],cs,out,hl,hP=>⟨Or.inl rfl,fun _=>by rw [List.append_nil];exact hP⟩
 | c::l,cs,out,hl,hP=>by
  have hc:=hl c List.mem_cons_self
  rw [splitF]
  obtain ⟨g1,g2⟩:=splitL_ok (id:=cs.length) hc out [] fun a ha=>(hP.ok a ha).pile
  rcases g1 with e | e | e
  ·rw [decide_eq_true e,cond_true]
   obtain ⟨k1,k2,k3,k4⟩:=g2 e
   have hN:Parts (cs++[c]) (splitL cs.length c out []).1:=by
    have hm:∀x∈(splitL cs.length c out []).1,∃a∈out,(partA a cs.length c).2=0/\x∈(partA a cs.length c).1:=fun x hx=>(k2 x hx).elim (fun h=>by cases h) id
    refine ⟨fun h=>?_,fun x hx h g hh hg d hd=>?_,fun x hx=>?_,fun x hx=>?_,k1⟩
    ·obtain ⟨a,ha,hh⟩:=hP.all h
     obtain ⟨x,hx,hh⟩:=partA_all (k4 a ha).1 (hP.ok a ha).pile hc hh
     exact ⟨x,(k4 a ha).2 x hx,hh⟩
    ·obtain ⟨a,ha,h0,hx⟩:=hm x hx
     obtain ⟨_,_,hq⟩:=partA_mem h0 (hP.ok a ha).pile hc hx
     rcases List.mem_append.1 hd with hd | hd
     ·refine hP.like a ha h g ?_ ?_ d hd
      ·rcases hq with ⟨_,hq⟩ | ⟨_,hq⟩
       ·rw [hq,Bool.and_eq_true] at hh;exact hh.1
       ·rw [hq,Bool.and_eq_true] at hh;exact hh.1
      ·rcases hq with ⟨_,hq⟩ | ⟨_,hq⟩
       ·rw [hq,Bool.and_eq_true] at hg;exact hg.1
       ·rw [hq,Bool.and_eq_true] at hg;exact hg.1
     ·rw [List.mem_singleton.1 hd]
      rcases hq with ⟨_,hq⟩ | ⟨_,hq⟩
      ·rw [hq,Bool.and_eq_true] at hh hg;rw [hh.2,hg.2]
      ·rw [hq,Bool.and_eq_true,Bool.not_eq_true'] at hh hg;rw [hh.2,hg.2]
    ·obtain ⟨a,ha,h0,hx⟩:=hm x hx
     obtain ⟨h1,h2,hq⟩:=partA_mem h0 (hP.ok a ha).pile hc hx
     have hi:=(hP.ok a ha).ids
     have hu:=(hP.ok a ha).up
     rw [List.length_append,List.length_singleton]
     refine ⟨h1,?_,?_⟩
     ·rcases hq with ⟨hq,_⟩ | ⟨hq,_⟩
      ·rw [hq]
       intro i hi'
       rcases List.mem_append.1 hi' with hi' | hi'
       ·have:=hi i hi';omega
       ·rw [List.mem_singleton.1 hi'];omega
      ·rw [hq]
       intro i hi'
       have:=hi i hi';omega
     ·rcases hq with ⟨hq,_⟩ | ⟨hq,_⟩
      ·rw [hq,List.pairwise_append]
       exact ⟨hu,List.pairwise_singleton _ _,fun x hx y hy=>by rw [List.mem_singleton.1 hy];exact hi x hx⟩
      ·rw [hq];exact hu
    ·obtain ⟨a,ha,h0,hx⟩:=hm x hx
     exact (partA_mem h0 (hP.ok a ha).pile hc hx).2.1
   have:=splitF_ok l (cs++[c]) (splitL cs.length c out []).1 (fun d hd=>hl d (List.mem_cons_of_mem _ hd)) hN
   rw [List.length_append,List.length_singleton,List.append_assoc] at this
   exact this
  ·rw [e]
   exact ⟨Or.inr (Or.inl rfl),fun h=>by cases h⟩
  ·rw [e]
   exact ⟨Or.inr (Or.inr rfl),fun h=>by cases h⟩
theorem parts0:Parts [] [atom0]:=by
 refine ⟨fun h=>⟨atom0,List.mem_singleton.2 rfl,?_⟩,fun a ha h g _ _ c hc=>(by cases hc),fun a ha=>?_,fun a ha=>?_,by decide⟩
 ·simp [atom0,pileHas,Cb.has_zero]
 ·rw [List.mem_singleton.1 ha]
  exact ⟨by decide,fun i hi=>(by cases hi),List.Pairwise.nil⟩
 ·rw [List.mem_singleton.1 ha]
  simp [atom0,pileHas,Cb.has_zero]
theorem atomsOf_ok {ps:List Cb} (hp:∀c∈ps,c.sound=true) (hl:ps.length<=500):((atomsOf ps).2=0\/atomsOf ps=([],10)\/atomsOf ps=([],11))/\((atomsOf ps).2=0->Parts ps (atomsOf ps).1):=by
 rw [atomsOf,decide_eq_false (by omega),cond_false,List.all_eq_true.2 hp,cond_true]
 exact splitF_ok ps [] [atom0] hp parts0
end Go.Proofs.YtoaibdbehlcnfaaGreat.Sm
end
section
namespace Go.Proofs.YtoaibdbehlcnfaaGreat.Sm
open Go.RowKit
def Pt.zero:Pt:=⟨0,0,0,0,0⟩
def Rl.portIs (r:Rl) (kind:Int) (ports:List Pt):Bool:=decide (r.act.table=0) && decide (0<=r.act.port) && decide (r.act.port<ports.length) && decide ((ports.getD r.act.port.toNat Pt.zero).kind=kind)
theorem d_port (r:Rl) (kind:Int) (ports:List Pt):PDoes Tryz.prog 271 [.agg (cRl r),.i .i64 kind,.sl (ports.map cPt)] (.b (r.portIs kind ports)):=by
  refine PDoes.of_bodyN Tryz.func271 rfl (by kernel_rfl) rfl rfl ?_
  refine jB ?_;refine wF ?_;refine wH rfl ?_;refine jB ?_;refine wF ?_;refine wH rfl ?_;refine jB ?_
  refine AW.text ?_
  have hlen:(ports.map cPt).length=ports.length:=List.length_map ..
  by_cases h1:r.act.table=0
  · by_cases h2:0<=r.act.port
    · obtain ⟨n,hn⟩:=Int.eq_ofNat_of_zero_le h2
      by_cases h3:r.act.port<((ports.map cPt).length:Nat)
      · have h4:n<ports.length:=by rw [hlen] at h3;omega
        refine RG.runO ty_ok 0 [(14,.b true),(17,.b true),(23,.b true),(27,.i .i64 (n:Nat))] 400 rfl jD ?_
        refine RG.opS rfl (op_index rfl (tab_ok ty_ok rfl) rfl (tab_ok ty_ok rfl) rfl rfl (show (ports.map cPt)[n]?=some (cPt ports[n]) by rw [List.getElem?_map,List.getElem?_eq_getElem h4];rfl) rfl) rfl ?_
        refine wH rfl ?_;refine jA ?_
        refine AW.ret (retQA ty_ok rfl rfl rfl ?_)
        exact congrArg AV.b (by rw [hlen] at h3;simp [Rl.portIs,h1,h2,h3,hn,h4])
      · refine RG.runO ty_ok 0 [(14,.b true),(17,.b true),(23,.b false)] 400 rfl jD ?_
        refine wH rfl ?_;refine jA ?_
        refine AW.ret (retQA ty_ok rfl rfl rfl ?_)
        exact congrArg AV.b (by rw [hlen] at h3;simp [Rl.portIs,h3])
    · refine RG.runO ty_ok 0 [(14,.b true),(17,.b false)] 400 rfl jD ?_
      refine wH rfl ?_;refine jA ?_
      refine AW.ret (retQA ty_ok rfl rfl rfl ?_)
      exact congrArg AV.b (by simp [Rl.portIs,h2])
  · refine RG.runO ty_ok 0 [(14,.b false)] 400 rfl jD ?_
    refine wH rfl ?_;refine jA ?_
    refine AW.ret (retQA ty_ok rfl rfl rfl ?_)
    exact congrArg AV.b (by simp [Rl.portIs,h1])
def Rl.does (r:Rl) (table:Int) (ports:List Pt):Bool :=
 if r.act.kind=1 then decide (r.act.port=0) && decide (r.act.table=0)
 else if r.act.kind=2 then r.portIs 1 ports
 else if r.act.kind=3 then r.portIs 2 ports
 else if r.act.kind=4 then decide (r.act.port=0) && decide (table<r.act.table) && decide (r.act.table<3)
 else false
theorem d_does (r:Rl) (table:Int) (ports:List Pt):PDoes Tryz.prog 228 [.agg (cRl r),.i .i64 table,.sl (ports.map cPt)] (.b (r.does table ports)):=by
  refine PDoes.of_bodyN Tryz.func228 rfl (by kernel_rfl) rfl rfl ?_
  refine jA ?_
  refine AW.cond rfl (fun h=>?_) (fun h=>?_)
  · have h1:r.act.kind=1:=of_decide_eq_true h
    refine jB ?_
    refine AW.text ?_
    by_cases h2:r.act.port=0
    · refine RG.runO ty_ok 0 [(15,.b true)] 400 rfl jD ?_
      refine wH rfl ?_;refine jA ?_
      refine AW.ret (retQA ty_ok rfl rfl rfl ?_)
      exact congrArg AV.b (by simp [Rl.does,h1,h2])
    · refine RG.runO ty_ok 0 [(15,.b false)] 400 rfl jD ?_
      refine wH rfl ?_;refine jA ?_
      refine AW.ret (retQA ty_ok rfl rfl rfl ?_)
      exact congrArg AV.b (by simp [Rl.does,h1,h2])
  have h1:¬r.act.kind=1:=of_decide_eq_false h
  clear h
  refine jA ?_
  refine AW.cond rfl (fun h=>?_) (fun h=>?_)
  · have h2:r.act.kind=2:=of_decide_eq_true h
    refine jA ?_
    refine RG.callS rfl rfl rfl rfl rfl (d_port r 1 ports) rfl rfl ?_;refine wH rfl ?_;refine jA ?_
    refine AW.ret (retQA ty_ok rfl rfl rfl ?_)
    exact congrArg AV.b (by simp [Rl.does,h2])
  have h2:¬r.act.kind=2:=of_decide_eq_false h
  clear h
  refine jA ?_
  refine AW.cond rfl (fun h=>?_) (fun h=>?_)
  · have h3:r.act.kind=3:=of_decide_eq_true h
    refine jA ?_
    refine RG.callS rfl rfl rfl rfl rfl (d_port r 2 ports) rfl rfl ?_;refine wH rfl ?_;refine jA ?_
    refine AW.ret (retQA ty_ok rfl rfl rfl ?_)
    exact congrArg AV.b (by simp [Rl.does,h3])
  have h3:¬r.act.kind=3:=of_decide_eq_false h
  clear h
  refine jA ?_
  refine AW.cond rfl (fun h=>?_) (fun h=>?_)
  · have h4:r.act.kind=4:=of_decide_eq_true h
    refine jB ?_
    refine AW.text ?_
    by_cases h5:r.act.port=0
    · by_cases h6:table<r.act.table
      · refine RG.runO ty_ok 0 [(37,.b true),(43,.b true)] 400 rfl jD ?_
        refine wH rfl ?_;refine jA ?_
        refine AW.ret (retQA ty_ok rfl rfl rfl ?_)
        exact congrArg AV.b (by simp [Rl.does,h4,h5,h6])
      · refine RG.runO ty_ok 0 [(37,.b true),(43,.b false)] 400 rfl jD ?_
        refine wH rfl ?_;refine jA ?_
        refine AW.ret (retQA ty_ok rfl rfl rfl ?_)
        exact congrArg AV.b (by simp [Rl.does,h4,h6])
    · refine RG.runO ty_ok 0 [(37,.b false)] 400 rfl jD ?_
      refine wH rfl ?_;refine jA ?_
      refine AW.ret (retQA ty_ok rfl rfl rfl ?_)
      exact congrArg AV.b (by simp [Rl.does,h4,h5])
  have h4:¬r.act.kind=4:=of_decide_eq_false h
  clear h
  refine jA ?_
  refine AW.ret (retQA ty_ok rfl rfl rfl ?_)
  exact congrArg AV.b (by simp [Rl.does,h1,h2,h3,h4])
def Rl.sound (r:Rl) (table:Int) (ports:List Pt):Bool:=decide (0<=r.prio) && decide (r.prio<=1048576) && r.mat.sound && r.act.set.sound && r.does table ports
theorem d_RSound (r:Rl) (table:Int) (ports:List Pt) (q:Bool) (hq:r.sound table ports=q):PDoes Tryz.prog 180 [.agg (cRl r),.i .i64 table,.sl (ports.map cPt)] (.b q):=by
  subst hq
  refine PDoes.of_bodyN Tryz.func180 rfl (by kernel_rfl) rfl rfl ?_
  refine jB ?_;refine wF ?_;refine wH rfl ?_;refine jB ?_
  refine AW.text ?_
  by_cases h1:0<=r.prio
  · by_cases h2:r.prio<=1048576
    · refine RG.runO ty_ok 0 [(9,.b true),(13,.b true)] 400 rfl jD ?_
      cases h3:r.mat.sound
      · refine RG.callS rfl rfl rfl rfl rfl (d_Sound r.mat _ h3) rfl rfl ?_;refine wH rfl ?_;refine jA ?_
        refine AW.ret (retQA ty_ok rfl rfl rfl ?_)
        exact congrArg AV.b (by simp [Rl.sound,h3])
      · refine RG.callS rfl rfl rfl rfl rfl (d_Sound r.mat _ h3) rfl rfl ?_;refine wH rfl ?_;refine jA ?_
        cases h4:r.act.set.sound
        · refine RG.callS rfl rfl rfl rfl rfl (d_Sound r.act.set _ h4) rfl rfl ?_;refine wH rfl ?_;refine jA ?_
          refine AW.ret (retQA ty_ok rfl rfl rfl ?_)
          exact congrArg AV.b (by simp [Rl.sound,h4])
        · refine RG.callS rfl rfl rfl rfl rfl (d_Sound r.act.set _ h4) rfl rfl ?_;refine wH rfl ?_;refine jA ?_
          refine RG.callS rfl rfl rfl rfl rfl (d_does r table ports) rfl rfl ?_;refine wH rfl ?_;refine jA ?_
          refine AW.ret (retQA ty_ok rfl rfl rfl ?_)
          exact congrArg AV.b (by simp [Rl.sound,h1,h2,h3,h4])
    · refine RG.runO ty_ok 0 [(9,.b true),(13,.b false)] 400 rfl jD ?_
      refine wH rfl ?_;refine jA ?_
      refine AW.ret (retQA ty_ok rfl rfl rfl ?_)
      exact congrArg AV.b (by simp [Rl.sound,h2])
  · refine RG.runO ty_ok 0 [(9,.b false)] 400 rfl jD ?_
    refine wH rfl ?_;refine jA ?_
    refine AW.ret (retQA ty_ok rfl rfl rfl ?_)
    exact congrArg AV.b (by simp [Rl.sound,h1])
theorem d_RSet (r:Rl) (h:Hd):PDoes Tryz.prog 262 [.agg (cRl r),.agg (cHd h)] (.agg (cHd (h.set r.act.set))):=by
 refine PDoes.of_bodyN Tryz.func262 rfl (by kernel_rfl) rfl rfl ?_
 refine jA ?_
 refine RG.callS rfl rfl rfl rfl rfl (d_Set h r.act.set) rfl rfl ?_;refine wH rfl ?_;refine jA ?_
 refine AW.ret (retQA ty_ok rfl rfl rfl ?_)
 rfl
theorem d_isNaN (a:Int):PDoes Tryz.prog 268 [.i .i64 a] (.b false):=by
 refine PDoes.of_bodyN Tryz.func268 rfl (by kernel_rfl) rfl rfl ?_
 refine jA ?_
 refine AW.ret (retQA ty_ok rfl rfl rfl ?_)
 exact congrArg AV.b (by simp)
def cmpI (a b:Int):Int:=if a<b then -1 else if b<a then 1 else 0
theorem d_Compare (a b:Int):PDoes Tryz.prog 308 [.i .i64 a,.i .i64 b] (.i .i64 (cmpI a b)):=by
 refine PDoes.of_bodyN Tryz.func308 rfl (by kernel_rfl) rfl rfl ?_
 refine jA ?_
 refine RG.callS rfl rfl rfl rfl rfl (d_isNaN a) rfl rfl ?_;refine wH rfl ?_;refine jA ?_
 refine RG.callS rfl rfl rfl rfl rfl (d_isNaN b) rfl rfl ?_;refine wH rfl ?_;refine jA ?_
 refine AW.condF rfl ?_;refine jA ?_
 refine AW.condF rfl ?_;refine jA ?_
 refine AW.cond rfl (fun h=>?_) (fun h=>?_)
 ·refine jA ?_
  refine AW.ret (retQA ty_ok rfl rfl rfl ?_)
  rw [cmpI,if_pos (of_decide_eq_true h)]
  rfl
 ·have h1:=of_decide_eq_false h
  clear h
  refine jA ?_
  refine AW.cond rfl (fun h=>?_) (fun h=>?_)
  ·refine jA ?_
   refine AW.ret (retQA ty_ok rfl rfl rfl ?_)
   rw [cmpI,if_neg h1,if_pos (of_decide_eq_true h)]
   rfl
  ·refine jA ?_
   refine AW.ret (retQA ty_ok rfl rfl rfl ?_)
   rw [cmpI,if_neg h1,if_neg (of_decide_eq_false h)]
   rfl
def orI:List Int->Int
 | []=>0
 | x::xs=>if x≠0 then x else orI xs
theorem d_Or2 (l:List Int):PDoes Tryz.prog 307 [.sl (l.map cI)] (.i .i64 (orI l)):=by
  refine PDoes.of_bodyN Tryz.func307 rfl (by kernel_rfl) rfl rfl ?_
  refine jA ?_
  refine AW.lens 6 rfl fun hm=>?_
  rw [List.length_map] at hm
  refine AW.loopL (ι:=Nat) (fun k=>[(3,.i .i64 0),(6,.sl (l.map cI)),(7,.i .i64 (l.map cI).length),(8,.i .i64 (k:Nat))]) (fun k=>[]) (fun k=>k<=l.length/\orI (l.drop k)=orI l) (fun k=>l.length - k) 0 ⟨Nat.zero_le _,rfl⟩ jW trivial fun k hk=>?_
  obtain ⟨hk,hf⟩:=hk
  refine jA ?_
  refine AW.cond rfl (fun h=>?_) (fun h=>?_)
  · have h:k<l.length:=by simpa using h
    rw [List.drop_eq_getElem_cons h,orI] at hf
    refine jA ?_
    refine RG.opS rfl (op_index rfl (tab_ok ty_ok rfl) rfl (tab_ok ty_ok rfl) rfl rfl (show (l.map cI)[k]?=some (cI l[k]) by simp [h]) rfl) rfl ?_
    refine wH rfl ?_;refine jA ?_
    refine AW.cond rfl (fun hne=>?_) (fun hne=>?_)
    · have hne:l[k]≠0:=by simpa using hne
      refine jA ?_
      refine AW.ret (retQA ty_ok rfl rfl rfl ?_)
      rw [if_pos hne] at hf
      rw [<- hf]
      rfl
    · have hne:¬l[k]≠0:=by simpa using hne
      rw [if_neg hne] at hf
      refine jA ?_
      exact ⟨k+1,⟨⟨by omega,hf⟩,by omega⟩,jV,trivial⟩
  · have h:¬k<l.length:=by simpa using h
    obtain rfl:k=l.length:=by omega
    refine jA ?_
    refine AW.exit ?_;refine Eq.mpr (if_pos rfl) ?_;refine jA ?_
    refine AW.ret (retQA ty_ok rfl rfl rfl ?_)
    rw [List.drop_length] at hf
    rw [<- hf]
    rfl
end Go.Proofs.YtoaibdbehlcnfaaGreat.Sm
end
section
namespace Go.Proofs.YtoaibdbehlcnfaaGreat.Sm
open Go.RowKit
def Sp.zero:Sp:=⟨0,0⟩
def Ac.zero:Ac:=⟨0,0,0,Cb.zero⟩
def Rl.zero:Rl:=⟨0,Cb.zero,Ac.zero⟩
def countT:List (List Rl)->Int->Int
 | [],n=>n
 | l::t,n=>countT t (IntKind.i64.wrap (n+(l.length:Nat)))
def rulesOk (n:Nat) (m:Nat) (ports:List Pt):List Rl->Bool
 | []=>true
 | r::l=>bif r.sound n ports && decide (r.act.table<(m:Nat)) then rulesOk n m ports l else false
def tablesOk (m:Nat) (ports:List Pt):Nat->List (List Rl)->Bool
 | _,[]=>true
 | n,l::t=>bif rulesOk n m ports l then tablesOk m ports (n+1) t else false
def tabSound (t:List (List Rl)) (ports:List Pt):Int :=
 if t.length=0\/t.length>3 then 4 else if countT t 0>96 then 12 else if tablesOk t.length ports 0 t then 0 else 2
def linkOk (t:List (List Pt)) (n a:Nat) (p:Pt):Bool :=
 decide (p.tenant=0) && (decide (1<=p.cost) && (decide (p.cost<=1000) && (decide (0<=p.peer) && (decide (p.peer<t.length) && (decide (p.peer≠n) && (decide (0<=p.at_) && (decide (p.at_<(t.getD p.peer.toNat []).length) && decide ((t.getD p.peer.toNat []).getD p.at_.toNat Pt.zero=⟨2,0,n,a,p.cost⟩))))))))
def portOk (t:List (List Pt)) (n a:Nat) (p:Pt):Bool :=
 if p.kind=0 then decide (p=Pt.zero) else if p.kind=1 then decide (p=⟨1,p.tenant,0,0,0⟩) && (decide (0<=p.tenant) && decide (p.tenant<4)) else if p.kind=2 then linkOk t n a p else false
def rowFits:List (List Pt)->Bool
 | []=>true
 | r::l=>bif decide (r.length>6) then false else rowFits l
def rowOk (t:List (List Pt)) (n:Nat):Nat->List Pt->Bool
 | _,[]=>true
 | a,p::l=>bif portOk t n a p then rowOk t n (a+1) l else false
def rowsOk (t:List (List Pt)):Nat->List (List Pt)->Bool
 | _,[]=>true
 | n,r::l=>bif rowOk t n 0 r then rowsOk t (n+1) l else false
def topoSound (t:List (List Pt)):Int :=
 if t.length=0\/t.length>6 then 4 else if rowFits t then (if rowsOk t 0 t then 0 else 2) else 4
def edgeI (n:Nat) (a:Nat) (p:Pt):List Sp:=bif decide (p.kind=1) then [⟨n,a⟩] else []
def edgeRow (n:Nat) (r:List Pt):List Sp:=accI (edgeI n) 0 r []
def edges (t:List (List Pt)):List Sp:=accI edgeRow 0 t []
def portAt (t:List (List Pt)) (s:Sp):Pt:=(t.getD s.sw.toNat []).getD s.port.toNat Pt.zero
def spotIn (t:List (List Pt)) (s:Sp):Bool:=decide (0<=s.sw) && (decide (s.sw<t.length) && (decide (0<=s.port) && decide (s.port<(t.getD s.sw.toNat []).length)))
def edgeOf (t:List (List Pt)) (s:Sp):Int:=bif spotIn t s && decide ((portAt t s).kind=1) then (portAt t s).tenant else -1
def tenantOk (p:Pol) (n:Int):Bool:=decide (0<=n) && decide (n<p.tenants)
def edgesFit (c:Cf):List Sp->Bool
 | []=>true
 | s::l=>bif tenantOk c.pol (portAt c.topo.ports s).tenant then edgesFit c l else false
def sizesOk (c:Cf):Bool:=decide (1<=c.pol.tenants) && (decide (c.pol.tenants<=4) && (decide (c.pol.peers.length<=16) && (decide (c.pol.ways.length<=4) && edgesFit c (edges c.topo.ports))))
def peersOk (p:Pol):List (Int × Int)->Bool
 | []=>true
 | x::l=>bif tenantOk p x.1 && tenantOk p x.2 then peersOk p l else false
def waysOk (p:Pol) (m:Nat):List Wy->Bool
 | []=>true
 | w::l=>bif tenantOk p w.fro && (tenantOk p w.to && (decide (0<=w.via) && decide (w.via<(m:Nat)))) then waysOk p m l else false
def polOk (c:Cf):Bool:=peersOk c.pol c.pol.peers && waysOk c.pol c.topo.ports.length c.pol.ways
def tabsSound (ports:List (List Pt)):Nat->List (List (List Rl))->Int
 | _,[]=>0
 | n,t::l=>if tabSound t (ports.getD n [])=0 then tabsSound ports (n+1) l else tabSound t (ports.getD n [])
def Cf.sound (c:Cf):Int :=
 if topoSound c.topo.ports=0 then (bif sizesOk c then (bif polOk c then (if c.tables.length=c.topo.ports.length then tabsSound c.topo.ports 0 c.tables else 4) else 2) else 4) else topoSound c.topo.ports
def stampOf (c:Cf) (s:Sp) (v:Int):Cb:=Cb.make (((Hd.zero.put 88 24 (ofI64 ((portAt c.topo.ports s).tenant+1))).put 112 8 (ofI64 v))) (maskH 88 40)
def fndF (h:Hd):Nat->List Rl->Option (Nat × Int)->Option (Nat × Int)
 | _,[],b=>b
 | i,r::l,b=>fndF h (i+1) l (bif r.mat.has h && b.all (fun q=>decide (q.2<r.prio)) then some (i,r.prio) else b)
def fnd (l:List Rl) (h:Hd):Option Nat:=(fndF h 0 l none).map (·.1)
def tabOf (c:Cf) (n t:Nat):List Rl:=(c.tables.getD n []).getD t []
def goF (c:Cf):Nat->Nat->Nat->Hd->List Hop->Run
 | 0,_,_,_,hops=>⟨4,Sp.zero,hops⟩
 | f+1,n,t,h,hops =>
  match fnd (tabOf c n t) h with
  | none=>⟨3,Sp.zero,hops++[⟨n,t,-1,h⟩]⟩
  | some r =>
   if ((tabOf c n t).getD r Rl.zero).act.kind=4 then goF c f n ((tabOf c n t).getD r Rl.zero).act.table.toNat (h.set ((tabOf c n t).getD r Rl.zero).act.set) (hops++[⟨n,t,r,h⟩])
   else if ((tabOf c n t).getD r Rl.zero).act.kind=3 then goF c f (portAt c.topo.ports ⟨n,((tabOf c n t).getD r Rl.zero).act.port⟩).peer.toNat 0 (h.set ((tabOf c n t).getD r Rl.zero).act.set) (hops++[⟨n,t,r,h⟩])
   else if ((tabOf c n t).getD r Rl.zero).act.kind=2 then ⟨2,⟨n,((tabOf c n t).getD r Rl.zero).act.port⟩,hops++[⟨n,t,r,h⟩]⟩
   else ⟨1,Sp.zero,hops++[⟨n,t,r,h⟩]⟩
def runOf (c:Cf) (s:Sp) (h:Hd) (v:Int) (most:Nat):Run:=goF c most s.sw.toNat 0 (h.set (stampOf c s v)) []
def addC (l:List Cb) (x:Cb):List Cb:=bif decide (x∈l) then l else l++[x]
def addAll:List Cb->List Cb->List Cb
 | l,[]=>l
 | l,x::xs=>addAll (addC l x) xs
def rulesOf (c:Cf):List Rl:=c.tables.flatten.flatten
def setsR:List Cb->List Rl->List Cb
 | l,[]=>l
 | l,r::rs=>setsR (bif decide (r.act.set=Cb.zero) then l else addC l r.act.set) rs
def setsOf (c:Cf) (v:Int):List Cb:=setsR (addAll [] ((edges c.topo.ports).map fun s=>stampOf c s v)) (rulesOf c)
def closeRow (p:Cb):List Cb->List Cb->List Cb
 | [],all=>all
 | s::sets,all=>closeRow p sets (bif p.hits s then addC all (p.before s) else all)
def closeF (sets:List Cb):Nat->Nat->List Cb->List Cb
 | 0,_,all=>all
 | f+1,n,all=>bif decide (n<all.length) && decide (all.length<=500) then closeF sets f (n+1) (closeRow (all.getD n Cb.zero) sets all) else all
def askedOf (c:Cf) (v:Int):List Cb:=closeF (setsOf c v) 501 0 (addAll [] ((rulesOf c).map Rl.mat))
end Go.Proofs.YtoaibdbehlcnfaaGreat.Sm
end
section
namespace Go.Proofs.YtoaibdbehlcnfaaGreat.Sm
open Go.RowKit
theorem addC_mem {l:List Cb} {x y:Cb}:y∈addC l x↔y∈l\/y=x:=by
 rw [addC]
 by_cases h:x∈l
 ·rw [decide_eq_true h,cond_true]
  exact ⟨Or.inl,fun H=>H.elim id fun e=>e ▸ h⟩
 ·rw [decide_eq_false h,cond_false,List.mem_append,List.mem_singleton]
theorem addC_pre {l:List Cb} {x:Cb}:∃m,addC l x=l++m:=by
 rw [addC]
 by_cases h:x∈l
 ·exact ⟨[],by rw [decide_eq_true h,cond_true,List.append_nil]⟩
 ·exact ⟨[x],by rw [decide_eq_false h,cond_false]⟩
theorem addAll_mem {y:Cb}:∀{xs l:List Cb},y∈addAll l xs↔y∈l\/y∈xs
 | [],l=>by simp [addAll]
 | x::xs,l=>by rw [addAll,addAll_mem,addC_mem,List.mem_cons,or_assoc]
theorem setsR_mem {y:Cb}:∀{rs:List Rl} {l:List Cb},y∈setsR l rs↔y∈l\/∃r∈rs,r.act.set=y/\y≠Cb.zero
 | [],l=>by simp [setsR]
 | r::rs,l=>by
  rw [setsR,setsR_mem]
  by_cases h:r.act.set=Cb.zero
  ·rw [decide_eq_true h,cond_true]
   refine or_congr Iff.rfl ⟨fun ⟨q,hq,H⟩=>⟨q,List.mem_cons_of_mem _ hq,H⟩,fun ⟨q,hq,H⟩=>?_⟩
   rcases List.mem_cons.1 hq with rfl | hq
   ·exact absurd (H.1.symm.trans h) H.2
   ·exact ⟨q,hq,H⟩
  ·rw [decide_eq_false h,cond_false,addC_mem,or_assoc]
   refine or_congr Iff.rfl ⟨?_,fun ⟨q,hq,H⟩=>?_⟩
   ·rintro (e | ⟨q,hq,H⟩)
    ·exact ⟨r,List.mem_cons_self,e.symm,by rw [e];exact h⟩
    ·exact ⟨q,List.mem_cons_of_mem _ hq,H⟩
   ·rcases List.mem_cons.1 hq with rfl | hq
    ·exact Or.inl H.1.symm
    ·exact Or.inr ⟨q,hq,H⟩
theorem setsOf_mem {c:Cf} {v:Int} {y:Cb}:y∈setsOf c v↔(∃s∈edges c.topo.ports,stampOf c s v=y)\/∃r∈rulesOf c,r.act.set=y/\y≠Cb.zero:=by
 rw [setsOf,setsR_mem,addAll_mem,List.mem_map]
 simp
theorem closeRow_pre (p:Cb):∀(sets all:List Cb),∃m,closeRow p sets all=all++m
 | [],all=>⟨[],by rw [closeRow,List.append_nil]⟩
 | s::sets,all=>by
  rw [closeRow]
  obtain ⟨m,hm⟩:=closeRow_pre p sets (bif p.hits s then addC all (p.before s) else all)
  rw [hm]
  cases p.hits s
  ·exact ⟨m,rfl⟩
  ·obtain ⟨m',hm'⟩:=addC_pre (l:=all) (x:=p.before s)
   exact ⟨m'++m,by rw [cond_true,hm',List.append_assoc]⟩
theorem closeRow_in (p:Cb):∀(sets all:List Cb),∀s∈sets,p.hits s=true->p.before s∈closeRow p sets all
 | s::sets,all,t,ht,hh=>by
  rw [closeRow]
  rcases List.mem_cons.1 ht with rfl | ht
  ·rw [hh,cond_true]
   obtain ⟨m,hm⟩:=closeRow_pre p sets (addC all (p.before t))
   rw [hm]
   exact List.mem_append_left _ (addC_mem.2 (Or.inr rfl))
  ·exact closeRow_in p sets _ t ht hh
theorem closeRow_sound (p:Cb):∀(sets all:List Cb),(∀x∈all,x.sound=true)->∀x∈closeRow p sets all,x.sound=true
 | [],all,h,x,hx=>h x hx
 | s::sets,all,h,x,hx=>by
  rw [closeRow] at hx
  refine closeRow_sound p sets _ (fun y hy=>?_) x hx
  cases hh:p.hits s
  ·rw [hh,cond_false] at hy;exact h y hy
  ·rw [hh,cond_true,addC_mem] at hy
   rcases hy with hy | rfl
   ·exact h y hy
   ·exact Cb.make_sound _ _
theorem getD_pre {l m:List Cb} {i:Nat} (h:i<l.length):(l++m).getD i Cb.zero=l.getD i Cb.zero:=by
 rw [List.getD_eq_getElem?_getD,List.getD_eq_getElem?_getD,List.getElem?_append_left h]
theorem closeF_ok (sets : List Cb) : ∀ (f n : Nat) (all : List Cb), n + f = 501 -> n <= all.length -> (∀ x ∈ all, x.sound = true) -> (∀ i < n, ∀ s ∈ sets, (all.getD i Cb.zero).hits s = true -> (all.getD i Cb.zero).before s ∈ all) ->
    (∀x∈closeF sets f n all,x.sound=true)/\(∀x∈all,x∈closeF sets f n all)/\((closeF sets f n all).length<=500->∀x∈closeF sets f n all,∀s∈sets,x.hits s=true->x.before s∈closeF sets f n all)
  | 0,n,all,hn,hl,hs,hc=>by
    rw [closeF]
    exact ⟨hs,fun x hx=>hx,fun h=>by omega⟩
  | f+1,n,all,hn,hl,hs,hc=>by
    rw [closeF]
    by_cases h:n<all.length/\all.length<=500
    · rw [decide_eq_true h.1,decide_eq_true h.2,Bool.and_true,cond_true]
      obtain ⟨m,hm⟩:=closeRow_pre (all.getD n Cb.zero) sets all
      have hin:=closeRow_in (all.getD n Cb.zero) sets all
      have hso:=closeRow_sound (all.getD n Cb.zero) sets all hs
      rw [hm] at hin hso ⊢
      obtain ⟨g1,g2,g3⟩:=closeF_ok sets f (n+1) (all++m) (by omega) (by rw [List.length_append];omega) hso fun i hi s hsi hh=>by
        rw [getD_pre (by omega)] at hh ⊢
        by_cases e:i=n
        · subst e;exact hin s hsi hh
        · exact List.mem_append_left _ (hc i (by omega) s hsi hh)
      exact ⟨g1,fun x hx=>g2 x (List.mem_append_left _ hx),g3⟩
    · rw [<- Bool.decide_and,decide_eq_false h,cond_false]
      refine ⟨hs,fun x hx=>hx,fun hle x hx s hsi hh=>?_⟩
      obtain ⟨i,hi⟩:=List.mem_iff_getElem?.1 hx
      have hil:=(List.getElem?_eq_some_iff.1 hi).1
      have:=hc i (by omega) s hsi
      rw [List.getD_eq_getElem?_getD,hi] at this
      exact this hh
theorem rulesOk_mem {n m:Nat} {ports:List Pt}:∀{l:List Rl},rulesOk n m ports l=true->∀r∈l,r.sound n ports=true/\r.act.table<(m:Nat)
 | r::l,h,q,hq=>by
  rw [rulesOk] at h
  cases hb:(r.sound n ports && decide (r.act.table<(m:Nat)))
  ·rw [hb] at h;cases h
  ·rw [hb,cond_true] at h
   rw [Bool.and_eq_true,decide_eq_true_eq] at hb
   rcases List.mem_cons.1 hq with rfl | hq
   ·exact hb
   ·exact rulesOk_mem h q hq
theorem tablesOk_mem {m:Nat} {ports:List Pt}:∀{t:List (List Rl)} {n:Nat},tablesOk m ports n t=true->∀(i:Nat) (l:List Rl),t[i]?=some l->rulesOk (n+i) m ports l=true
 | l::t,n,h,i,q,hq=>by
  rw [tablesOk] at h
  cases hb:rulesOk n m ports l
  ·rw [hb] at h;cases h
  ·rw [hb,cond_true] at h
   cases i with
   | zero=>rw [List.getElem?_cons_zero] at hq;rw [<- Option.some.inj hq];exact hb
   | succ i=>rw [show n+(i+1)=n+1+i by omega];exact tablesOk_mem h i q hq
theorem tabSound_ok {t:List (List Rl)} {ports:List Pt} (h:tabSound t ports=0):1<=t.length/\t.length<=3/\countT t 0<=96/\∀(i:Nat) (l:List Rl),t[i]?=some l->∀r∈l,r.sound i ports=true/\r.act.table<(t.length:Nat):=by
 rw [tabSound] at h
 split at h
 ·cases h
 rename_i h1
 split at h
 ·cases h
 rename_i h2
 split at h
 ·rename_i h3
  refine ⟨by omega,by omega,by omega,fun i l hl r hr=>?_⟩
  have:=rulesOk_mem (tablesOk_mem h3 i l hl) r hr
  rw [Nat.zero_add] at this
  exact this
 ·cases h
theorem rowOk_mem {t:List (List Pt)} {n:Nat}:∀{r:List Pt} {a:Nat},rowOk t n a r=true->∀(i:Nat) (p:Pt),r[i]?=some p->portOk t n (a+i) p=true
 | q::r,a,h,i,p,hp=>by
  rw [rowOk] at h
  cases hb:portOk t n a q
  ·rw [hb] at h;cases h
  ·rw [hb,cond_true] at h
   cases i with
   | zero=>rw [List.getElem?_cons_zero] at hp;rw [<- Option.some.inj hp];exact hb
   | succ i=>rw [show a+(i+1)=a+1+i by omega];exact rowOk_mem h i p hp
theorem rowsOk_mem {t:List (List Pt)}:∀{l:List (List Pt)} {n:Nat},rowsOk t n l=true->∀(i:Nat) (r:List Pt),l[i]?=some r->rowOk t (n+i) 0 r=true
 | q::l,n,h,i,r,hr=>by
  rw [rowsOk] at h
  cases hb:rowOk t n 0 q
  ·rw [hb] at h;cases h
  ·rw [hb,cond_true] at h
   cases i with
   | zero=>rw [List.getElem?_cons_zero] at hr;rw [<- Option.some.inj hr];exact hb
   | succ i=>rw [show n+(i+1)=n+1+i by omega];exact rowsOk_mem h i r hr
theorem rowFits_mem:∀{l:List (List Pt)},rowFits l=true->∀r∈l,r.length<=6
 | q::l,h,r,hr=>by
  rw [rowFits] at h
  by_cases hq:q.length>6
  ·rw [decide_eq_true hq] at h;cases h
  ·rw [decide_eq_false hq,cond_false] at h
   rcases List.mem_cons.1 hr with rfl | hr
   ·omega
   ·exact rowFits_mem h r hr
theorem topoSound_ok {t:List (List Pt)} (h:topoSound t=0):1<=t.length/\t.length<=6/\(∀r∈t,r.length<=6)/\∀(n:Nat) (r:List Pt),t[n]?=some r->∀(a:Nat) (p:Pt),r[a]?=some p->portOk t n a p=true:=by
 rw [topoSound] at h
 split at h
 ·cases h
 rename_i h1
 split at h
 ·rename_i h2
  split at h
  ·rename_i h3
   refine ⟨by omega,by omega,rowFits_mem h2,fun n r hr a p hp=>?_⟩
   have:=rowsOk_mem h3 n r hr
   rw [Nat.zero_add] at this
   have:=rowOk_mem this a p hp
   rw [Nat.zero_add] at this
   exact this
  ·cases h
 ·cases h
theorem tabsSound_ok {ports:List (List Pt)}:∀{l:List (List (List Rl))} {n:Nat},tabsSound ports n l=0->∀(i:Nat) (t:List (List Rl)),l[i]?=some t->tabSound t (ports.getD (n+i) [])=0
 | q::l,n,h,i,t,ht=>by
  rw [tabsSound] at h
  split at h
  ·rename_i h1
   cases i with
   | zero=>rw [List.getElem?_cons_zero] at ht;rw [<- Option.some.inj ht];exact h1
   | succ i=>rw [show n+(i+1)=n+1+i by omega];exact tabsSound_ok h i t ht
  ·rename_i h1
   exact absurd h h1
structure Cf.Ok (c:Cf):Prop where
 topo:topoSound c.topo.ports=0
 sizes:sizesOk c=true
 pol:polOk c=true
 len:c.tables.length=c.topo.ports.length
 tabs:∀(n:Nat) (t:List (List Rl)),c.tables[n]?=some t->tabSound t (c.topo.ports.getD n [])=0
theorem Cf.ok {c:Cf} (h:c.sound=0):c.Ok:=by
 rw [Cf.sound] at h
 split at h
 ·rename_i h1
  cases h2:sizesOk c
  ·rw [h2] at h;cases h
  rw [h2,cond_true] at h
  cases h3:polOk c
  ·rw [h3] at h;cases h
  rw [h3,cond_true] at h
  split at h
  ·rename_i h4
   refine ⟨h1,h2,h3,h4,fun n t ht=>?_⟩
   have:=tabsSound_ok h n t ht
   rw [Nat.zero_add] at this
   exact this
  ·cases h
 ·rename_i h1
  exact absurd h h1
structure At (c:Cf) (n t:Nat):Prop where
 sw:n<c.tables.length
 tab:t<(c.tables.getD n []).length
theorem At.start {c:Cf} (hc:c.Ok) {n:Nat} (h:n<c.topo.ports.length):At c n 0:=by
 have hn:n<c.tables.length:=by rw [hc.len];exact h
 refine ⟨hn,?_⟩
 have:=(tabSound_ok (hc.tabs n _ (List.getElem?_eq_getElem hn))).1
 rw [List.getD_eq_getElem?_getD,List.getElem?_eq_getElem hn]
 exact this
theorem At.get {c:Cf} {n t:Nat} (h:At c n t):∃ts,c.tables[n]?=some ts/\ts[t]?=some (tabOf c n t):=by
 have h1:=h.tab
 rw [List.getD_eq_getElem?_getD,List.getElem?_eq_getElem h.sw] at h1
 refine ⟨_,List.getElem?_eq_getElem h.sw,?_⟩
 rw [tabOf,List.getD_eq_getElem?_getD,List.getD_eq_getElem?_getD,List.getElem?_eq_getElem h.sw]
 have h1:t<(c.tables[n]'h.sw).length:=h1
 show (c.tables[n]'h.sw)[t]?=some (((c.tables[n]'h.sw)[t]?).getD [])
 rw [List.getElem?_eq_getElem h1]
 rfl
theorem At.rule {c:Cf} (hc:c.Ok) {n t:Nat} (h:At c n t) {r:Rl} (hr:r∈tabOf c n t):r.sound t (c.topo.ports.getD n [])=true/\r.act.table<((c.tables.getD n []).length:Nat):=by
 obtain ⟨ts,h1,h2⟩:=h.get
 have:=(tabSound_ok (hc.tabs n ts h1)).2.2.2 t _ h2 r hr
 rw [List.getD_eq_getElem?_getD (l:=c.tables),h1]
 exact this
theorem Rl.sound_does {r:Rl} {t:Int} {ports:List Pt} (h:r.sound t ports=true):r.mat.sound=true/\r.act.set.sound=true/\r.does t ports=true:=by
 rw [Rl.sound] at h
 simp only [Bool.and_eq_true] at h
 exact ⟨h.1.1.2,h.1.2,h.2⟩
theorem Rl.does_goto {r:Rl} {t:Int} {ports:List Pt} (h:r.does t ports=true) (hk:r.act.kind=4):t<r.act.table/\r.act.table<3:=by
 rw [Rl.does] at h
 simp only [hk] at h
 simp at h
 omega
theorem Rl.does_forward {r:Rl} {t:Int} {ports:List Pt} (h:r.does t ports=true) (hk:r.act.kind=3):0<=r.act.port/\r.act.port<ports.length/\(ports.getD r.act.port.toNat Pt.zero).kind=2:=by
 rw [Rl.does] at h
 simp only [hk] at h
 simp [Rl.portIs] at h
 exact ⟨h.1.1.2,h.1.2,h.2⟩
theorem Rl.does_kind {r:Rl} {t:Int} {ports:List Pt} (h:r.does t ports=true):r.act.kind=1\/r.act.kind=2\/r.act.kind=3\/r.act.kind=4:=by
 rw [Rl.does] at h
 split at h
 ·rename_i h1;exact Or.inl h1
 split at h
 ·rename_i h1;exact Or.inr (Or.inl h1)
 split at h
 ·rename_i h1;exact Or.inr (Or.inr (Or.inl h1))
 split at h
 ·rename_i h1;exact Or.inr (Or.inr (Or.inr h1))
 cases h
theorem At.link {c:Cf} (hc:c.Ok) {n t:Nat} (h:At c n t) {r:Rl} (hr:r∈tabOf c n t) (hk:r.act.kind=3) :
  0<=(portAt c.topo.ports ⟨n,r.act.port⟩).peer/\(portAt c.topo.ports ⟨n,r.act.port⟩).peer<c.topo.ports.length/\(portAt c.topo.ports ⟨n,r.act.port⟩).kind=2:=by
 obtain ⟨h1,h2,h3⟩:=Rl.does_forward (Rl.sound_does (h.rule hc hr).1).2.2 hk
 have hn:n<c.topo.ports.length:=by rw [<- hc.len];exact h.sw
 have e1:(c.topo.ports.getD n [])=c.topo.ports[n]:=by rw [List.getD_eq_getElem?_getD,List.getElem?_eq_getElem hn];rfl
 have e2:portAt c.topo.ports ⟨n,r.act.port⟩=(c.topo.ports.getD n []).getD r.act.port.toNat Pt.zero:=by rw [portAt,Int.toNat_natCast]
 rw [e2]
 rw [e1] at h2 h3 ⊢
 have hp:r.act.port.toNat<c.topo.ports[n].length:=by omega
 have e3:c.topo.ports[n].getD r.act.port.toNat Pt.zero=c.topo.ports[n][r.act.port.toNat]:=by rw [List.getD_eq_getElem?_getD,List.getElem?_eq_getElem hp];rfl
 have h4:=(topoSound_ok hc.topo).2.2.2 n _ (List.getElem?_eq_getElem hn) _ _ (List.getElem?_eq_getElem hp)
 rw [e3] at h3 ⊢
 rw [portOk] at h4
 simp only [h3] at h4
 simp [linkOk] at h4
 exact ⟨by omega,by omega,h3⟩
theorem At.forward {c:Cf} (hc:c.Ok) {n t:Nat} (h:At c n t) {r:Rl} (hr:r∈tabOf c n t) (hk:r.act.kind=3):At c (portAt c.topo.ports ⟨n,r.act.port⟩).peer.toNat 0:=by
 obtain ⟨h1,h2,_⟩:=h.link hc hr hk
 exact At.start hc (by omega)
theorem At.goto {c:Cf} (hc:c.Ok) {n t:Nat} (h:At c n t) {r:Rl} (hr:r∈tabOf c n t) (hk:r.act.kind=4):At c n r.act.table.toNat:=by
 obtain ⟨h1,h2⟩:=h.rule hc hr
 obtain ⟨h3,h4⟩:=Rl.does_goto (Rl.sound_does h1).2.2 hk
 exact ⟨h.sw,by omega⟩
def Like (ps:List Cb) (h g:Hd):Prop:=∀p∈ps,p.has h=p.has g
theorem fndF_like {h g:Hd}:∀{l:List Rl} {i:Nat} {b:Option (Nat × Int)},(∀r∈l,r.mat.has h=r.mat.has g)->fndF h i l b=fndF g i l b
 | [],_,_,_=>rfl
 | r::l,i,b,H=>by
  rw [fndF,fndF,H r List.mem_cons_self]
  exact fndF_like fun q hq=>H q (List.mem_cons_of_mem _ hq)
theorem fndF_lt {h:Hd}:∀{l:List Rl} {i:Nat} {b:Option (Nat × Int)} {x:Nat × Int},fndF h i l b=some x->(b=some x)\/(i<=x.1/\x.1<i+l.length/\∃r,l[x.1 - i]?=some r/\r.mat.has h=true)
  | [],i,b,x,H=>Or.inl H
  | r::l,i,b,x,H=>by
    rw [fndF] at H
    rcases fndF_lt H with e | ⟨h1,h2,q,h3,h4⟩
    · cases hb:(r.mat.has h && b.all fun q=>decide (q.2<r.prio))
      · rw [hb,cond_false] at e;exact Or.inl e
      · rw [hb,cond_true] at e
        rw [<- Option.some.inj e]
        rw [Bool.and_eq_true] at hb
        exact Or.inr ⟨Nat.le_refl _,by rw [List.length_cons];show i<_;omega,r,by simp,hb.1⟩
    · refine Or.inr ⟨by omega,by rw [List.length_cons];omega,q,?_,h4⟩
      rw [show x.1 - i=(x.1 - (i+1))+1 by omega,List.getElem?_cons_succ]
      exact h3
theorem fnd_lt {l:List Rl} {h:Hd} {r:Nat} (H:fnd l h=some r):r<l.length/\l.getD r Rl.zero∈l/\(l.getD r Rl.zero).mat.has h=true:=by
 rw [fnd] at H
 cases hf:fndF h 0 l none with
 | none=>rw [hf] at H;cases H
 | some x =>
  rw [hf] at H
  have e:x.1=r:=Option.some.inj H
  rcases fndF_lt hf with h1 | ⟨_,h2,q,h3,h4⟩
  ·cases h1
  ·rw [e] at h2 h3
   rw [Nat.zero_add] at h2
   rw [Nat.sub_zero] at h3
   rw [List.getD_eq_getElem?_getD,h3]
   exact ⟨h2,List.mem_of_getElem? h3,h4⟩
structure Asked (c:Cf) (v:Int) (ps:List Cb):Prop where
 mats:∀r∈rulesOf c,r.mat∈ps
 closed:∀p∈ps,∀s∈setsOf c v,p.hits s=true->p.before s∈ps
theorem askedOf_ok {c:Cf} (hc:c.Ok) (v:Int):(∀p∈askedOf c v,p.sound=true)/\((askedOf c v).length<=500->Asked c v (askedOf c v)):=by
 have hm:∀r∈rulesOf c,r.mat.sound=true:=by
  intro r hr
  obtain ⟨l,hl,hr⟩:=List.mem_flatten.1 hr
  obtain ⟨t,ht,hl⟩:=List.mem_flatten.1 hl
  obtain ⟨n,hn⟩:=List.mem_iff_getElem?.1 ht
  obtain ⟨i,hi⟩:=List.mem_iff_getElem?.1 hl
  exact (Rl.sound_does ((tabSound_ok (hc.tabs n t hn)).2.2.2 i l hi r hr).1).1
 obtain ⟨g1,g2,g3⟩:=closeF_ok (setsOf c v) 501 0 (addAll [] ((rulesOf c).map Rl.mat)) rfl (Nat.zero_le _) (fun x hx=>by
  rw [addAll_mem,List.mem_map] at hx
  rcases hx with hx | ⟨r,hr,rfl⟩
  ·cases hx
  ·exact hm r hr) fun i hi=>absurd hi (Nat.not_lt_zero i)
 refine ⟨g1,fun hl=>⟨fun r hr=>g2 _ ?_,g3 hl⟩⟩
 rw [addAll_mem,List.mem_map]
 exact Or.inr ⟨r,hr,rfl⟩
theorem Like.set {c:Cf} {v:Int} {ps:List Cb} (hA:Asked c v ps) {h g:Hd} (H:Like ps h g) {s:Cb} (hs:s∈setsOf c v\/s=Cb.zero):Like ps (h.set s) (g.set s):=by
 rcases hs with hs | rfl
 ·intro p hp
  rw [Cb.has_set,Cb.has_set]
  cases hh:p.hits s
  ·rfl
  ·rw [H _ (hA.closed p hp s hs hh)]
 ·rw [Hd.set_zero,Hd.set_zero];exact H
def hopKey (x:Hop):Int × Int × Int:=(x.sw,x.table,x.rule)
structure Run.Alike (x y:Run):Prop where
 fin:x.fin=y.fin
 at_:x.at_=y.at_
 hops:x.hops.map hopKey=y.hops.map hopKey
theorem goF_alike {c:Cf} (hc:c.Ok) {v:Int} {ps:List Cb} (hA:Asked c v ps):∀(f:Nat) (n t:Nat) (h g:Hd) (xs ys:List Hop),At c n t->Like ps h g->xs.map hopKey=ys.map hopKey->(goF c f n t h xs).Alike (goF c f n t g ys)
 | 0,n,t,h,g,xs,ys,hat,hl,he=>⟨rfl,rfl,he⟩
 | f+1,n,t,h,g,xs,ys,hat,hl,he=>by
  obtain ⟨ts,ht1,ht2⟩:=hat.get
  have hin:∀r∈tabOf c n t,r∈rulesOf c:=fun r hr=>List.mem_flatten.2 ⟨_,List.mem_flatten.2 ⟨ts,List.mem_of_getElem? ht1,List.mem_of_getElem? ht2⟩,hr⟩
  have hf:fnd (tabOf c n t) h=fnd (tabOf c n t) g:=by
   rw [fnd,fnd,fndF_like fun r hr=>hl _ (hA.mats r (hin r hr))]
  rw [goF,goF,hf]
  cases hq:fnd (tabOf c n t) g with
  | none=>exact ⟨rfl,rfl,by simp [he,hopKey]⟩
  | some r =>
   obtain ⟨_,hr,_⟩:=fnd_lt hq
   have hap:(xs++[(⟨n,t,r,h⟩:Hop)]).map hopKey=(ys++[(⟨n,t,r,g⟩:Hop)]).map hopKey:=by simp [he,hopKey]
   dsimp only
   revert hr
   generalize (tabOf c n t).getD r Rl.zero=q
   intro hr
   have hs:Like ps (h.set q.act.set) (g.set q.act.set):=hl.set hA (by
    by_cases e:q.act.set=Cb.zero
    ·exact Or.inr e
    ·exact Or.inl (setsOf_mem.2 (Or.inr ⟨q,hin q hr,rfl,e⟩)))
   by_cases k4:q.act.kind=4
   ·rw [if_pos k4,if_pos k4]
    exact goF_alike hc hA f _ _ _ _ _ _ (hat.goto hc hr k4) hs hap
   rw [if_neg k4,if_neg k4]
   by_cases k3:q.act.kind=3
   ·rw [if_pos k3,if_pos k3]
    exact goF_alike hc hA f _ _ _ _ _ _ (hat.forward hc hr k3) hs hap
   rw [if_neg k3,if_neg k3]
   by_cases k2:q.act.kind=2
   ·rw [if_pos k2,if_pos k2]
    exact ⟨rfl,rfl,hap⟩
   rw [if_neg k2,if_neg k2]
   exact ⟨rfl,rfl,hap⟩
theorem edges_mem {t:List (List Pt)} {s:Sp}:s∈edges t↔∃(n:Nat) (r:List Pt) (a:Nat) (p:Pt),t[n]?=some r/\r[a]?=some p/\p.kind=1/\s=⟨n,a⟩:=by
 rw [edges,accI_mem]
 constructor
 ·rintro ⟨n,r,hr,h⟩
  rw [edgeRow,accI_mem] at h
  obtain ⟨a,p,hp,h⟩:=h
  rw [Nat.zero_add,Nat.zero_add,edgeI] at h
  by_cases hk:p.kind=1
  ·rw [decide_eq_true hk,cond_true] at h
   exact ⟨n,r,a,p,hr,hp,hk,List.mem_singleton.1 h⟩
  ·rw [decide_eq_false hk] at h;cases h
 ·rintro ⟨n,r,a,p,hr,hp,hk,rfl⟩
  refine ⟨n,r,hr,?_⟩
  rw [edgeRow,accI_mem]
  refine ⟨a,p,hp,?_⟩
  rw [Nat.zero_add,Nat.zero_add,edgeI,decide_eq_true hk]
  exact List.mem_singleton.2 rfl
theorem edgeOf_iff {t:List (List Pt)} (ht:topoSound t=0) {s:Sp}:0<=edgeOf t s↔s∈edges t:=by
 rw [edges_mem]
 constructor
 ·intro h
  rw [edgeOf] at h
  cases hb:(spotIn t s && decide ((portAt t s).kind=1))
  ·rw [hb] at h;simp at h
  ·simp only [spotIn,Bool.and_eq_true,decide_eq_true_eq] at hb
   obtain ⟨⟨h1,h2,h3,h4⟩,h5⟩:=hb
   obtain ⟨sw,port⟩:=s
   obtain ⟨n,rfl⟩:=Int.eq_ofNat_of_zero_le h1
   obtain ⟨a,rfl⟩:=Int.eq_ofNat_of_zero_le h3
   simp only [portAt,Int.toNat_natCast] at h4 h5
   have h2:((n:Nat):Int)<t.length:=h2
   have hn:n<t.length:=by omega
   have e1:t.getD n []=t[n]:=by rw [List.getD_eq_getElem?_getD,List.getElem?_eq_getElem hn];rfl
   rw [e1] at h4 h5
   have ha:a<t[n].length:=by omega
   have e2:t[n].getD a Pt.zero=t[n][a]:=by rw [List.getD_eq_getElem?_getD,List.getElem?_eq_getElem ha];rfl
   rw [e2] at h5
   exact ⟨n,_,a,_,List.getElem?_eq_getElem hn,List.getElem?_eq_getElem ha,h5,rfl⟩
 ·rintro ⟨n,r,a,p,hr,hp,hk,rfl⟩
  have hok:=(topoSound_ok ht).2.2.2 n r hr a p hp
  have e1:t.getD n []=r:=by rw [List.getD_eq_getElem?_getD,hr];rfl
  have e2:r.getD a Pt.zero=p:=by rw [List.getD_eq_getElem?_getD,hp];rfl
  have hn:=(List.getElem?_eq_some_iff.1 hr).1
  have ha:=(List.getElem?_eq_some_iff.1 hp).1
  rw [portOk] at hok
  simp only [hk] at hok
  simp at hok
  simp only [edgeOf,spotIn,portAt,Int.toNat_natCast,e1,e2,hk]
  rw [decide_eq_true (by omega),decide_eq_true (by omega),decide_eq_true (by omega),decide_eq_true (by omega)]
  exact hok.2.1
theorem runOf_alike {c:Cf} (hc:c.Ok) {v:Int} {ps:List Cb} (hA:Asked c v ps) {s:Sp} (hs:s∈edges c.topo.ports) {h g:Hd} (H:Like ps h g) (most:Nat):(runOf c s h v most).Alike (runOf c s g v most):=by
 rw [runOf,runOf]
 obtain ⟨n,r,a,p,hr,hp,hk,rfl⟩:=edges_mem.1 hs
 refine goF_alike hc hA most _ _ _ _ _ _ (At.start hc ?_) (H.set hA (Or.inl (setsOf_mem.2 (Or.inl ⟨_,hs,rfl⟩)))) rfl
 exact (List.getElem?_eq_some_iff.1 hr).1
end Go.Proofs.YtoaibdbehlcnfaaGreat.Sm
end
section
namespace Go.Proofs.YtoaibdbehlcnfaaGreat.Sm
open Go.RowKit
theorem shr_rem (a:UInt64) (k:Nat) (hk:k<64):decide (shr64 a k % 2=1)=a.toBitVec.getLsbD k:=by
 have h:(shr64 a k % 2).toNat=a.toNat / 2 ^ k % 2:=by
  rw [UInt64.toNat_mod,shr64,UInt64.toNat_ofNat_of_lt' (Nat.lt_of_le_of_lt (Nat.div_le_self _ _) (UInt64.toNat_lt a)),Nat.min_eq_left (by omega)]
  rfl
 rw [BitVec.getLsbD,Nat.testBit_eq_decide_div_mod_eq]
 refine decide_eq_decide.2 ?_
 rw [<- UInt64.toNat_inj,h]
 rfl
def ti158:TI:=⟨.arr 128 4,128,128,bA fun _=>false⟩
theorem ti158_ok:TiOk Tryz.prog 152 ti158:=tiB_ok (by kernel_rfl)
theorem d_Bits (h:Hd):PDoes Tryz.prog 75 [.agg (cHd h)] (.agg (bA h.b)):=by
  refine PDoes.of_bodyN Tryz.func75 rfl (by kernel_rfl) rfl rfl ?_
  refine jA ?_
  refine RG.opS rfl (op_allocB (id:=2) rfl ti158_ok rfl) rfl ?_
  refine jB ?_
  refine AW.text ?_
  refine RG.opS rfl (op_buildB rfl ti158_ok rfl (tab_ok ty_ok rfl) rfl) rfl ?_
  refine RG.opS rfl (op_allocB (id:=3) rfl ti158_ok rfl) rfl ?_
  refine RG.opS rfl (op_storeBs (bA_len _) rfl ti158_ok rfl rfl rfl rfl) rfl ?_
  refine wH rfl ?_;refine jA ?_
  refine AW.loopL (ι:=Nat × (Nat->Bool)) (fun i=>[(1,.own 1 0 0),(2,.own 2 0 0),(3,.own 3 0 0),(4,.i .i64 (i.1:Nat))]) (fun i=>[(1,⟨0,some (.box 34 (cHd h))⟩),(2,⟨0,some (.box 152 (bA fun _=>false))⟩),(3,⟨0,some (.box 152 (bA i.2))⟩)]) (fun i=>i.1<=128/\∀j<i.1,i.2 j=h.b j) (fun i=>128 - i.1) (0,fun _=>false) ⟨Nat.zero_le _,fun j hj=>absurd hj (Nat.not_lt_zero j)⟩ jW jW fun i hi=>?_
  obtain ⟨k,f⟩:=i
  obtain ⟨hk,hf⟩:=hi
  simp only at hk hf
  refine jA ?_
  refine AW.cond rfl (fun h'=>?_) (fun h'=>?_)
  · have h':k<128:=Int.ofNat_lt.1 (of_decide_eq_true h')
    have hm:(128:Nat)<=9223372036854775807:=by decide
    refine jA ?_
    refine AW.cond rfl (fun h2=>?_) (fun h2=>?_)
    · have h2:k<64:=Int.ofNat_lt.1 (of_decide_eq_true h2)
      refine jA ?_
      refine RG.opS rfl (op_addrB k h' rfl ti158_ok rfl (tab_ok ty_ok rfl) rfl rfl rfl rfl) rfl ?_
      refine RG.opS rfl (op_storeB k h' rfl (tab_ok ty_ok rfl) rfl rfl rfl rfl) rfl ?_
      refine wH rfl ?_;refine jA ?_
      refine ⟨(k+1,upB f k _),⟨⟨h',fun j hj=>?_⟩,by show 128 - (k+1)<128 - k;omega⟩,jV,jW⟩
      show upB f k _ j=_
      rw [upB]
      by_cases e:j=k
      · rw [if_pos e,e,sh0 k (by omega),Hd.b,if_pos h2]
        exact shr_rem h.lo k h2
      · rw [if_neg e];exact hf j (by show j<k;have:j<k+1:=hj;omega)
    · have h2:¬k<64:=fun h3=>of_decide_eq_false h2 (Int.ofNat_lt.2 h3)
      refine jA ?_
      refine RG.opS rfl (op_addrB k h' rfl ti158_ok rfl (tab_ok ty_ok rfl) rfl rfl rfl rfl) rfl ?_
      refine RG.opS rfl (op_storeB k h' rfl (tab_ok ty_ok rfl) rfl rfl rfl rfl) rfl ?_
      refine wH rfl ?_;refine jA ?_
      refine ⟨(k+1,upB f k _),⟨⟨h',fun j hj=>?_⟩,by show 128 - (k+1)<128 - k;omega⟩,jV,jW⟩
      show upB f k _ j=_
      rw [upB]
      by_cases e:j=k
      · rw [if_pos e,e,shn k 64 (by omega) (by omega),Hd.b,if_neg h2]
        exact shr_rem h.hi (k - 64) (by omega)
      · rw [if_neg e];exact hf j (by show j<k;have:j<k+1:=hj;omega)
  · have h':¬k<128:=fun h3=>of_decide_eq_false h' (Int.ofNat_lt.2 h3)
    obtain rfl:k=128:=by omega
    refine jA ?_
    refine AW.exit ?_;refine Eq.mpr (if_pos rfl) ?_;refine jA ?_
    refine RG.opS rfl (op_loadBs rfl ti158_ok rfl rfl rfl rfl) rfl ?_
    refine RG.opS rfl (op_storeBs (bA_len _) rfl ti158_ok rfl rfl rfl rfl) rfl ?_
    refine wH rfl ?_;refine jA ?_
    refine AW.ret (retBs rfl ti158_ok rfl rfl rfl rfl ?_)
    rw [bA_congr hf]
theorem dbl_b (x:UInt64) (q:Bool) (j:Nat) (hj:j<64):(x*2+(bif q then 1 else 0)).toBitVec.getLsbD j=if j=0 then q else x.toBitVec.getLsbD (j - 1):=by
 have h:(x*2+(bif q then 1 else 0)).toNat=(2*x.toNat+(bif q then 1 else 0)) % 2 ^ 64:=by
  cases q <;> (rw [UInt64.toNat_add,UInt64.toNat_mul];simp;omega)
 show (x*2+(bif q then 1 else 0)).toNat.testBit j=_
 rw [h,Nat.testBit_mod_two_pow,decide_eq_true hj,Bool.true_and]
 by_cases e:j=0
 ·rw [if_pos e,e,Nat.testBit_zero]
  cases q <;> simp <;> omega
 ·rw [if_neg e]
  obtain ⟨i,rfl⟩:∃i,j=i+1:=⟨j - 1,by omega⟩
  rw [Nat.testBit_succ,Nat.add_sub_cancel]
  show _=x.toNat.testBit i
  congr 1
  cases q <;> simp <;> omega
structure HeadAt (f:Nat->Bool) (n:Nat) (h:Hd):Prop where
 lo:∀j<64,h.lo.toBitVec.getLsbD j=(decide (n+j<64) && f (n+j))
 hi:∀j<64,h.hi.toBitVec.getLsbD j=(decide (max n 64+j<128) && f (max n 64+j))
theorem HeadAt.step_lo {f:Nat->Bool} {n:Nat} {h:Hd} (H:HeadAt f (n+1) h) (hn:n<64):HeadAt f n ⟨h.hi,h.lo*2+(bif f n then 1 else 0)⟩:=by
 refine ⟨fun j hj=>?_,fun j hj=>?_⟩
 ·show (h.lo*2+(bif f n then 1 else 0)).toBitVec.getLsbD j=_
  rw [dbl_b _ _ _ hj]
  by_cases e:j=0
  ·rw [if_pos e,e,Nat.add_zero,decide_eq_true hn,Bool.true_and]
  ·rw [if_neg e,H.lo _ (by omega),show n+1+(j - 1)=n+j by omega]
 ·have:=H.hi j hj
  rw [show max (n+1) 64=max n 64 by omega] at this
  exact this
theorem HeadAt.step_hi {f:Nat->Bool} {n:Nat} {h:Hd} (H:HeadAt f (n+1) h) (hn:¬n<64) (hn2:n<128):HeadAt f n ⟨h.hi*2+(bif f n then 1 else 0),h.lo⟩:=by
 refine ⟨fun j hj=>?_,fun j hj=>?_⟩
 ·have:=H.lo j hj
  rw [decide_eq_false (by omega),Bool.false_and] at this
  rw [decide_eq_false (by omega),Bool.false_and]
  exact this
 ·show (h.hi*2+(bif f n then 1 else 0)).toBitVec.getLsbD j=_
  rw [dbl_b _ _ _ hj]
  by_cases e:j=0
  ·rw [if_pos e,e,Nat.add_zero,show max n 64=n by omega,decide_eq_true hn2,Bool.true_and]
  ·rw [if_neg e,H.hi _ (by omega),show max (n+1) 64+(j - 1)=max n 64+j by omega]
theorem HeadAt.done {f:Nat->Bool} {h g:Hd} (H:HeadAt f 0 h) (hg:∀i<128,g.b i=f i):h=g:=by
 refine Hd.ext_b fun i=>?_
 by_cases hi:i<128
 ·rw [hg i hi,Hd.b]
  by_cases h6:i<64
  ·rw [if_pos h6,H.lo i h6,Nat.zero_add,decide_eq_true h6,Bool.true_and]
  ·rw [if_neg h6,H.hi (i - 64) (by omega),show max 0 64+(i - 64)=i by omega,decide_eq_true hi,Bool.true_and]
 ·rw [Hd.b_hi _ _ (by omega),Hd.b_hi _ _ (by omega)]
theorem d_Head (f:Nat->Bool) (g:Hd) (hg:∀i<128,g.b i=f i):PDoes Tryz.prog 116 [.agg (bA f)] (.agg (cHd g)):=by
  refine PDoes.of_bodyN Tryz.func116 rfl (by kernel_rfl) rfl rfl ?_
  refine jB ?_
  refine AW.text ?_
  refine RG.opS rfl (op_box (id:=1) (cs:=bA f) rfl rfl (bA_one f)) rfl ?_
  refine wH rfl ?_;refine jA ?_
  refine AW.loopL (ι:=Nat × Hd) (fun i=>[(1,.own 1 0 0),(2,.own 2 0 0),(3,.own 3 0 0),(4,.i .i64 ((i.1:Int) - 1))]) (fun i=>[(1,⟨0,some (.box 152 (bA f))⟩),(2,⟨0,some (.box 34 (cHd Hd.zero))⟩),(3,⟨0,some (.box 34 (cHd i.2))⟩)]) (fun i=>i.1<=128/\HeadAt f i.1 i.2) (fun i=>i.1) (128,Hd.zero) ⟨Nat.le_refl _,⟨fun j hj=>by rw [decide_eq_false (show ¬128+j<64 by omega)];exact BitVec.getLsbD_zero,fun j hj=>by rw [decide_eq_false (show ¬max 128 64+j<128 by omega)];exact BitVec.getLsbD_zero⟩⟩ jW jW fun i hi=>?_
  obtain ⟨n,h⟩:=i
  obtain ⟨hn,hf⟩:=hi
  simp only at hn hf
  refine jA ?_
  refine AW.cond rfl (fun h'=>?_) (fun h'=>?_)
  · obtain ⟨k,rfl⟩:∃k,n=k+1:=⟨n - 1,by have:=of_decide_eq_true h';simp only [Int.ofNat_eq_natCast] at this;omega⟩
    have hk:(((k+1:Nat):Int) - 1)=(k:Nat):=by omega
    have hk8:k<128:=by omega
    refine AW.only [(1,.own 1 0 0),(2,.own 2 0 0),(3,.own 3 0 0),(4,.i .i64 (k:Nat))] [(1,⟨0,some (.box 152 (bA f))⟩),(2,⟨0,some (.box 34 (cHd Hd.zero))⟩),(3,⟨0,some (.box 34 (cHd h))⟩)] ⟨Rn.ownIs rfl rfl rfl,Rn.ownIs rfl rfl rfl,Rn.ownIs rfl rfl rfl,.is (congrArg _ hk) rfl,trivial⟩ jW ?_
    refine jA ?_
    refine RG.opS rfl (op_addrB (k) hk8 rfl ti158_ok rfl (tab_ok ty_ok rfl) rfl rfl rfl rfl) rfl ?_
    refine RG.opS rfl (op_loadB (k) hk8 rfl (tab_ok ty_ok rfl) rfl rfl rfl) rfl ?_
    refine jB ?_
    refine AW.cond rfl (fun hq=>?_) (fun hq=>?_)
    · refine jA ?_
      refine AW.cond rfl (fun h2=>?_) (fun h2=>?_)
      · have h2:k<64:=Int.ofNat_lt.1 (of_decide_eq_true h2)
        refine jA ?_
        have H:=hf.step_lo h2
        rw [hq] at H
        exact ⟨(k,_),⟨⟨by show k<=128;omega,H⟩,Nat.lt_succ_self k⟩,⟨Rn.ownIs rfl rfl rfl,Rn.ownIs rfl rfl rfl,Rn.ownIs rfl rfl rfl,.is (i64_dec k (by omega)) rfl,trivial⟩,jW⟩
      · have h2:¬k<64:=fun h3=>of_decide_eq_false h2 (Int.ofNat_lt.2 h3)
        refine jA ?_
        have H:=hf.step_hi h2 hk8
        rw [hq] at H
        exact ⟨(k,_),⟨⟨by show k<=128;omega,H⟩,Nat.lt_succ_self k⟩,⟨Rn.ownIs rfl rfl rfl,Rn.ownIs rfl rfl rfl,Rn.ownIs rfl rfl rfl,.is (i64_dec k (by omega)) rfl,trivial⟩,jW⟩
    · refine jA ?_
      refine AW.cond rfl (fun h2=>?_) (fun h2=>?_)
      · have h2:k<64:=Int.ofNat_lt.1 (of_decide_eq_true h2)
        refine jA ?_
        have H:=hf.step_lo h2
        rw [hq] at H
        exact ⟨(k,_),⟨⟨by show k<=128;omega,H⟩,Nat.lt_succ_self k⟩,⟨Rn.ownIs rfl rfl rfl,Rn.ownIs rfl rfl rfl,Rn.ownIs rfl rfl rfl,.is (i64_dec k (by omega)) rfl,trivial⟩,jW⟩
      · have h2:¬k<64:=fun h3=>of_decide_eq_false h2 (Int.ofNat_lt.2 h3)
        refine jA ?_
        have H:=hf.step_hi h2 hk8
        rw [hq] at H
        exact ⟨(k,_),⟨⟨by show k<=128;omega,H⟩,Nat.lt_succ_self k⟩,⟨Rn.ownIs rfl rfl rfl,Rn.ownIs rfl rfl rfl,Rn.ownIs rfl rfl rfl,.is (i64_dec k (by omega)) rfl,trivial⟩,jW⟩
  · obtain rfl : n = 0 := by
      have:=of_decide_eq_false h'
      simp only [Int.ofNat_eq_natCast] at this
      omega
    refine jA ?_
    refine AW.exit ?_;refine Eq.mpr (if_pos rfl) ?_;refine jA ?_
    refine AW.ret (retQA ty_ok rfl rfl rfl ?_)
    rw [hf.done hg]
    rfl
end Go.Proofs.YtoaibdbehlcnfaaGreat.Sm
end
