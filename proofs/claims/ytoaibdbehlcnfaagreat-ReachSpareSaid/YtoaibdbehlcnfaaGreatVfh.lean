/- Contracts of the program's functions over data, and the plain laws that they meet (part 8). No condition. -/
import Derived.Test.YtoaibdbehlcnfaaGreatVfg
import Derived.WalkKit
import Derived.WalkSpells
import Derived.WalkLawsBesides
import Derived.Lib.Hide
import Derived.Deep.RegionHeld3
import Derived.Maps.AppendAt
import Derived.KernelRfl
import Derived.Lib.AppendStr
import Derived.Orders
import Derived.LoopTactic
import Derived.Laws.CopyRow
import Derived.Laws.Cells
import Derived.OrdersIn
import Derived.Laws.Externs
import Derived.TacticsIn
import Derived.RangeFuncLeaves
import Derived.RangeFuncRecord
import Derived.Great.BuildSlice
import Derived.Laws.ResultCell
import Derived.Laws.StructEq
import Derived.Laws.MakeOwn
import Derived.Deep.Slices
import Derived.Deep.Fields
import Derived.ChangeSame
import Derived.ProofKit
import Derived.OpenShut
import Derived.SizedLaws
import Derived.Test.YtoaibdbehlcnfaaGreatProg
import Derived.Shelf.Spec.BitsCarry
import Derived.Lib.AppendZerosOnto
import Derived.DeepKeys4
import Derived.MapKept
import Derived.Sort.AssemblyPlain
import Derived.Sort.LotD4
import Derived.Sort.Walk13a
import Derived.RangeFuncSeq
import Derived.RangeFuncIn
import Derived.Shelf.Sort.Plain
import Derived.Sort.OwnSortedInts
import Derived.Sort.LotA
set_option linter.unusedVariables false
set_option linter.unusedSimpArgs false
set_option maxRecDepth 100000
set_option maxHeartbeats 4000000
section
namespace Go.Proofs.YtoaibdbehlcnfaaGreat.Sm
open Go.RowKit Go.WideShapes Go.ChangeShapes Go.Deep
theorem RdZ.sliceB {α:Type} {P:Program} {t e:TypeId} {R:Rep α} {Q:α->Prop} (hR:RdZ P e R Q) (ht:P.underlying t=some (.slice e)) (hn:P.cellsOf e=R.n) (h0:0<R.n) (hb:0<P.bytesOf e):RdZ P t R.slice (fun l=>l.length*P.bytesOf e<=reachBytes/\∀a∈l,Q a):=by
  intro H enc w base spare held fuel cs x hx hz
  rcases open_slice ht hx with ⟨rfl,_⟩ | ⟨a,len,cap,m,n,D,Pl,rfl,_,hlc,hcm,hm,rfl,hel⟩
  · exact ⟨[],⟨_,rfl,SliceAt.nil _ _ _⟩,by simp,fun a ha=>by cases ha⟩
  · have hlm:len<=m:=by rw [hm];split <;> omega
    simp only [DataW.weights,ht] at hz
    have hlen:len*P.bytesOf e<=reachBytes:=by
      have h1:=hz _ List.mem_cons_self
      rw [List.length_map,List.length_range] at h1
      have h2:len*P.bytesOf e<=(len+(List.map (fun j=>D (len+j)) (List.range (m - len))).length)*P.bytesOf e:=Nat.mul_le_mul_right _ (Nat.le_add_right _ _)
      omega
    have hzi:∀i,i<len->∀k∈(D i).weights P e,k<=reachBytes:=fun i hi k hk=>by
      refine hz k (List.mem_cons_of_mem _ (List.mem_append_left _ ?_))
      exact weights_all (List.mem_map_of_mem (List.mem_range.2 hi)) k hk
    by_cases hp:0<len
    · have hspot : a = ⟨a.block, a.off, none⟩ /\ a.block < w.heap.size := by
        obtain ⟨cs',hc,_⟩:=hel 0 (by omega)
        obtain ⟨_,hl,hat⟩:=World.cells?_some hc
        have h1:=hat 0 (by rw [hn];exact h0)
        have e:(a.add (0*P.cellsOf e)).add 0=a:=by simp [Addr.add]
        rw [e,List.getElem?_eq_getElem (by rw [hl,hn];exact h0)] at h1
        refine ⟨?_,World.block_lt_of_cell? w a h1⟩
        unfold World.cell? at h1
        split at h1
        · split at h1
          · cases h1
          · rename_i hs
            obtain ⟨ab,ao,asp⟩:=a
            cases asp with
            | none=>rfl
            | some k=>simp at hs
        · cases h1
      obtain ⟨xs,cells,h1,h2,h3⟩:=all2_collect (r:=fun a c=>R.rel w (fun b=>b<w.heap.size) a c/\Q a) (n:=R.n) (fun _ _ h=>R.len h.1) w a.block a.off len fun i hi=>by
        obtain ⟨cs',hc,ht'⟩:=hel i (by omega)
        obtain ⟨y,hy,hq⟩:=hR H enc w base spare held n cs' _ ht' (hzi i hi)
        obtain ⟨_,hl,hat⟩:=World.cells?_some hc
        refine ⟨y,cs',⟨hy,hq⟩,fun j u hu=>?_⟩
        have hj:j<P.cellsOf e:=by have:=(List.getElem?_eq_some_iff.1 hu).1;omega
        have:=hat j hj
        rw [hu,hn,hspot.1] at this
        rw [show ((⟨a.block,a.off,none⟩:Addr).add (i*R.n)).add j=⟨a.block,a.off+(i*R.n+j),none⟩ by
          unfold Addr.add
          by_cases h1:i*R.n=0 <;> by_cases h2:j=0 <;> simp [h1,h2,Nat.add_assoc]] at this
        exact this
      obtain ⟨g1,g2⟩:=all2_and h2
      exact ⟨xs,⟨_,rfl,some a,cap,by rw [h1],by omega,hcm,fun _=>⟨a.block,a.off,by rw [<- hspot.1],hspot.2,hspot.2,cells,g1,h3⟩⟩,by rw [h1];exact hlen,g2⟩
    · obtain rfl:len=0:=by omega
      exact ⟨[],⟨_,rfl,some a,cap,rfl,Nat.zero_le _,hcm,fun h=>absurd h (Nat.lt_irrefl _)⟩,by simp,fun a ha=>by cases ha⟩
section
variable {P : Program} {t : TypeId}
theorem RdA.sliceB {α:Type} {e:TypeId} {n:Nat} {enc:α->List AV} {Q:α->Prop} (h:RdA P e n enc Q) (ht:P.underlying t=some (.slice e)) (hn:P.cellsOf e=n) (h0:0<n) (hb:0<P.bytesOf e) {S:Nat} (hS:P.bytesOf e=S):RdA P t 1 (fun l:List α=>[.sl (l.map enc)]) (fun l=>l.length*S<=reachBytes/\∀a∈l,Q a):=by
 subst hS
 have E:=(avR_enc h.len h.one).slice h0
 refine ⟨E.len,E.one,fun H e w base spare held fuel cs x hx hz=>?_⟩
 have hR:RdZ P _ (avR n enc h.len h.one) Q:=fun H e w base spare held fuel cs x hx hz=>h.read H e w base spare held fuel cs x hx hz
 obtain ⟨a,ha,hq⟩:=hR.sliceB ht hn h0 hb H e w base spare held fuel cs x hx hz
 exact ⟨a,⟨by rw [(avR n enc h.len h.one).slice.len ha,E.len],fun j y hj=>E.one a y (List.mem_of_getElem? hj),fun j y v hj hv=>E.to ha j y v hj hv⟩,hq⟩
end
theorem rf_Pts:RdA Tryz.prog 115 1 (fun l:List (Pt)=>[.sl (l.map cPt)]) (fun l=>l.length*40<=reachBytes/\∀a∈l,True):=(RdA.of ra_Pt).sliceB Tryz.underlying115 (by kernel_rfl) (by decide) (Nat.le_of_ble_eq_true (by kernel_rfl)) (by kernel_rfl)
theorem rf_Ptss:RdA Tryz.prog 22 1 (fun l:List (List Pt)=>[.sl (l.map cPts)]) (fun l=>l.length*24<=reachBytes/\∀a∈l,a.length*40<=reachBytes/\∀b∈a,True):=rf_Pts.sliceB Tryz.underlying22 (by kernel_rfl) (by decide) (Nat.le_of_ble_eq_true (by kernel_rfl)) (by kernel_rfl)
theorem rf_Prs:RdA Tryz.prog 25 1 (fun l:List (Int × Int)=>[.sl (l.map cPr)]) (fun l=>l.length*16<=reachBytes/\∀a∈l,True):=(RdA.of ra_Pr).sliceB Tryz.underlying25 (by kernel_rfl) (by decide) (Nat.le_of_ble_eq_true (by kernel_rfl)) (by kernel_rfl)
theorem rf_Wys:RdA Tryz.prog 26 1 (fun l:List (Wy)=>[.sl (l.map cWy)]) (fun l=>l.length*24<=reachBytes/\∀a∈l,True):=(RdA.of ra_Wy).sliceB Tryz.underlying26 (by kernel_rfl) (by decide) (Nat.le_of_ble_eq_true (by kernel_rfl)) (by kernel_rfl)
theorem rf_Rls:RdA Tryz.prog 48 1 (fun l:List (Rl)=>[.sl (l.map cRl)]) (fun l=>l.length*96<=reachBytes/\∀a∈l,True):=(RdA.of ra_Rl).sliceB Tryz.underlying48 (by kernel_rfl) (by decide) (Nat.le_of_ble_eq_true (by kernel_rfl)) (by kernel_rfl)
theorem rf_Tab:RdA Tryz.prog 47 1 (fun l:List (List Rl)=>[.sl (l.map cRls)]) (fun l=>l.length*24<=reachBytes/\∀a∈l,a.length*96<=reachBytes/\∀b∈a,True):=rf_Rls.sliceB Tryz.underlying47 (by kernel_rfl) (by decide) (Nat.le_of_ble_eq_true (by kernel_rfl)) (by kernel_rfl)
theorem rf_Tabs:RdA Tryz.prog 29 1 (fun l:List (List (List Rl))=>[.sl (l.map cTab)]) (fun l=>l.length*24<=reachBytes/\∀a∈l,a.length*24<=reachBytes/\∀b∈a,b.length*96<=reachBytes/\∀c∈b,True):=rf_Tab.sliceB Tryz.underlying29 (by kernel_rfl) (by decide) (Nat.le_of_ble_eq_true (by kernel_rfl)) (by kernel_rfl)
theorem rf_Topo:RdA Tryz.prog 24 1 (α:=Topo) cTopo (fun a=>a.ports.length*24<=reachBytes/\∀r∈a.ports,r.length*40<=reachBytes):=by
 refine ⟨fun _=>rfl,fun a=>List.all_eq_true.1 rfl,fun H e w base spare held fuel cs x hx hz=>?_⟩
 obtain ⟨m,hl,hp⟩:=struct_partZ Tryz.underlying24 hx hz
 have hl:cs.length=1:=hl.trans (by kernel_rfl)
 obtain ⟨a0,h0,q0⟩:=rf_Ptss.part (hp 0 22 0 1 rfl (by kernel_rfl))
 exact ⟨⟨a0⟩,PWs.all (h0.join rfl (PWs.nil hl)),q0.1,fun r hr=>(q0.2 r hr).1⟩
theorem rf_Pol:RdA Tryz.prog 28 3 (α:=Pol) cPol (fun a=>a.peers.length*16<=reachBytes/\a.ways.length*24<=reachBytes):=by
 refine ⟨fun _=>rfl,fun a=>List.all_eq_true.1 rfl,fun H e w base spare held fuel cs x hx hz=>?_⟩
 obtain ⟨m,hl,hp⟩:=struct_partZ Tryz.underlying28 hx hz
 have hl:cs.length=3:=hl.trans (by kernel_rfl)
 obtain ⟨a0,h0,_⟩:=(RdA.of ra_int).part (hp 0 3 0 1 rfl (by kernel_rfl))
 obtain ⟨a1,h1,q1⟩:=rf_Prs.part (hp 1 25 1 1 rfl (by kernel_rfl))
 obtain ⟨a2,h2,q2⟩:=rf_Wys.part (hp 2 26 2 1 rfl (by kernel_rfl))
 exact ⟨⟨a0,a1,a2⟩,PWs.all (h0.join rfl (h1.join rfl (h2.join rfl (PWs.nil hl)))),q1.1,q2.1⟩
theorem rf_Cf:RdA Tryz.prog 31 5 (α:=Cf) cCf (fun c=>c.Lens/\c.Fit):=by
 refine ⟨fun _=>rfl,fun a=>List.all_eq_true.1 rfl,fun H e w base spare held fuel cs x hx hz=>?_⟩
 obtain ⟨m,hl,hp⟩:=struct_partZ Tryz.underlying31 hx hz
 have hl:cs.length=5:=hl.trans (by kernel_rfl)
 obtain ⟨a0,h0,q0⟩:=rf_Topo.part (hp 0 24 0 1 rfl (by kernel_rfl))
 obtain ⟨a1,h1,q1⟩:=rf_Pol.part (hp 1 28 1 3 rfl (by kernel_rfl))
 obtain ⟨a2,h2,q2⟩:=rf_Tabs.part (hp 2 29 4 1 rfl (by kernel_rfl))
 refine ⟨⟨a0,a1,a2⟩,PWs.all (h0.join rfl (h1.join rfl (h2.join rfl (PWs.nil hl)))),fun t ht l hl=>?_,⟨q0.1,q0.2,q1.1,q1.2,q2.1,fun t ht=>(q2.2 t ht).1,fun t ht l hl=>((q2.2 t ht).2 l hl).1⟩⟩
 have:=((q2.2 t ht).2 l hl).1
 omega
end Go.Proofs.YtoaibdbehlcnfaaGreat.Sm
end
section
namespace Go.Proofs.YtoaibdbehlcnfaaGreat
open Go.RowKit Go.WideShapes Go.ChangeShapes Go.Deep Sm
theorem ReachSpare_law {H:Type} {e:TypeId × Value->H} (W:World) (b0:Nat)
  (v0:Value) (d0:DataW H) (p0:List MemPlace) (ok0:Value.okWide Tryz.prog W .any b0 31 v0) (h0:DataW.Trod e Tryz.prog W 0 (fun _=>true) true 31 v0 d0 p0)
  (v1:Value) (d1:DataW H) (p1:List MemPlace) (ok1:Value.okWide Tryz.prog W .any b0 5 v1) (h1:DataW.Trod e Tryz.prog W 0 (fun _=>true) true 5 v1 d1 p1)
  (v2:Value) (d2:DataW H) (p2:List MemPlace) (ok2:Value.okWide Tryz.prog W .any b0 42 v2) (h2:DataW.Trod e Tryz.prog W 0 (fun _=>true) true 42 v2 d2 p2)
  (v3:Value) (d3:DataW H) (p3:List MemPlace) (ok3:Value.okWide Tryz.prog W .any b0 34 v3) (h3:DataW.Trod e Tryz.prog W 0 (fun _=>true) true 34 v3 d3 p3)
  (hsz:(DataW.weightsEach Tryz.prog [31,5,42,34] [d0,d1,d2,d3]).all (·<=reachBytes)=true)
  : Calls Tryz.prog 8 #[v0,v1,v2,v3] W fun e W'=>e = .returned (.bool true)/\Kp No W W':=by
 obtain ⟨a0,r0,q0⟩:=rf_Cf.arg_struct Tryz.underlying31 hsz 0 rfl rfl ok0 h0
 obtain ⟨a1,r1⟩:=ra_u8.arg_int Tryz.underlying5 ok1 h1
 obtain ⟨a2,r2⟩:=ra_Sp.arg_struct Tryz.underlying42 ok2 h2
 obtain ⟨a3,r3⟩:=ra_Hd.arg_struct Tryz.underlying34 ok3 h3
 exact (ReachSpare_d a0 a1 a2 a3 q0.1 q0.2).law (vs:=[v0,v1,v2,v3]) rfl (pw_cons r0 (pw_cons r1 (pw_cons r2 (pw_cons r3 (pw_nil)))))
end Go.Proofs.YtoaibdbehlcnfaaGreat
end
