/- Contracts of the program's functions over data, and the plain laws that they meet (part 6). No condition. -/
import Derived.Test.YtoaibdbehlcnfaaGreatVee
import Derived.WalkKit
import Derived.WalkSpells
import Derived.WalkLawsBesides
import Derived.Lib.Hide
import Derived.Deep.RegionHeld3
import Derived.Maps.AppendAt
import Derived.KernelRfl
import Derived.Lib.AppendStr
import Derived.Orders
import Derived.LoopTactic
import Derived.Laws.CopyRow
import Derived.Laws.Cells
import Derived.OrdersIn
import Derived.Laws.Externs
import Derived.TacticsIn
import Derived.RangeFuncLeaves
import Derived.RangeFuncRecord
import Derived.Great.BuildSlice
import Derived.Laws.ResultCell
import Derived.Laws.StructEq
import Derived.Laws.MakeOwn
import Derived.Deep.Slices
import Derived.Deep.Fields
import Derived.ChangeSame
import Derived.ProofKit
import Derived.OpenShut
import Derived.SizedLaws
import Derived.Test.YtoaibdbehlcnfaaGreatProg
import Derived.Shelf.Spec.BitsCarry
import Derived.Lib.AppendZerosOnto
import Derived.DeepKeys4
import Derived.MapKept
import Derived.Sort.AssemblyPlain
import Derived.Sort.LotD4
import Derived.Sort.Walk13a
import Derived.RangeFuncSeq
import Derived.RangeFuncIn
set_option linter.unusedVariables false
set_option linter.unusedSimpArgs false
set_option maxRecDepth 100000
set_option maxHeartbeats 4000000
section
namespace Go.Proofs.YtoaibdbehlcnfaaGreat.Sm
open Go.RowKit
open Go.Sort (swp)
theorem w_quo4 (m k:Nat) (h:m<=100000) (hk:k<=3) (a:Nat) (ha:a<=100000):IntKind.i64.wrap (((a:Nat):Int)+IntKind.i64.wrap (IntKind.i64.wrap (Int.tdiv ((m:Nat):Int) (Int.ofNat 4))*Int.ofNat k))=((a+m / 4*k:Nat):Int):=by
 have e1:IntKind.i64.wrap (Int.tdiv ((m:Nat):Int) (Int.ofNat 4))=((m / 4:Nat):Int):=by
  rw [Int.tdiv_eq_ediv_of_nonneg (by omega),IntKind.wrap_i64];simp only [Int.ofNat_eq_natCast];omega
 have hm:m / 4*k<=100000*3:=Nat.mul_le_mul (by omega) hk
 have e2:IntKind.i64.wrap (((m / 4:Nat):Int)*Int.ofNat k)=((m / 4*k:Nat):Int):=by
  rw [Int.ofNat_eq_natCast,<- Int.natCast_mul]
  generalize m / 4*k=x at hm
  rw [IntKind.wrap_i64];omega
 rw [e1,e2]
 generalize m / 4*k=x at hm
 rw [IntKind.wrap_i64];omega
theorem medAdj_lt {L:Nat} {lt:Fin (L+1)->Fin (L+1)->Bool} {d:Array (Fin (L+1))} {n a c:Nat} (ha:a+1<n):(Go.Sort.medianAdjacent lt d a c).1<n:=by
 rcases Go.Sort.medianAdjacent_mem lt d a c with h | h | h <;> rw [h] <;> omega
def pvB {L:Nat} (q:Nat->Option (Nat × Nat)) (l:List Rl) (n:Nat) (d:Array (Fin (L+1))) (c:Nat):List (Nat × SB):=(11,⟨0,some (.box 3 (cI ((c:Nat):Int)))⟩)::gl q [210,201] (ioB l n d)
theorem pv_end {L:Nat} {l:List Rl} {d:Array (Fin (L+1))} {s:St} {q:Nat->Option (Nat × Nat)} {n c e e1 e1' e3 g g1:Nat} {els:List (List AV)} {cs:List AV} (h3:s.σ 11=⟨e3,some (.box 3 cs)⟩) (h0:s.σ 210=⟨e,some (.box 368 [.sl (l.map cRl),.row 201 e1 0 n])⟩) (h1:s.σ 201=⟨e1',some (.row 3 1 els)⟩)
  (hg:s.σ 1110=⟨g,some (.ghost 210 e (q 210))⟩) (hg1:s.σ 1101=⟨g1,some (.ghost 201 e1' (q 201))⟩) (he:e1=e1') (hc:cs=cI ((c:Nat):Int)) (hel:els=d.toList.map numF) (hn:0+n<=(d.toList.map numF).length):WkB s (lkB (pvB q l n d c)) (pvB q l n d c):=by
 subst he hel hc
 exact ⟨.boxL h3 ⟨Rn.is rfl rfl,trivial⟩ rfl,.ghost hg h0 rfl,.ghost hg1 h1 rfl,.boxL h0 ⟨Rn.is rfl rfl,Rn.rowIs rfl h1 rfl,trivial⟩ rfl,.row h1 rfl,trivial⟩
theorem m_pivot (l:List Rl) (L:Nat) (hL:l.length=L+1) (n:Nat) (hl:n<=100000) (d:Array (Fin (L+1))) (hn:d.size=n) (a b:Nat) (ha:a<b) (hb:b<=n) (q:Nat->Option (Nat × Nat)):MDoes Tryz.prog 313 [.row 201 0 0 n,.i .i64 ((a:Nat):Int),.i .i64 ((b:Nat):Int),.fn 300 [.own 210 0 0] []] (gl q [210,201] (ioB l n (d))) (.tup [.i .i64 (((Go.Sort.rawPivot (ltI l L) d a b).1:Nat):Int),.i .i64 (Go.Sort.hintCode (Go.Sort.hintOf (Go.Sort.rawPivot (ltI l L) d a b).2))]) (gl q [210,201] (ioB l n (d))):=by
 refine MDoes.of_body Tryz.func313 rfl (by kernel_rfl) rfl rfl ?_
 generalize hR:Go.Sort.rawPivot (ltI l L) d a b=R
 rw [Go.Sort.rawPivot] at hR
 have wl:IntKind.i64.wrap (((b:Nat):Int) - ((a:Nat):Int))=((b - a:Nat):Int):=by rw [IntKind.wrap_i64];omega
 generalize hm:b - a=m at wl hR
 have w1:=w_quo4 m 1 (by omega) (by decide) a (by omega)
 have w2:=w_quo4 m 2 (by omega) (by decide) a (by omega)
 have w3:=w_quo4 m 3 (by omega) (by decide) a (by omega)
 refine jB ?_;refine wF ?_;refine wH rfl ?_;refine jB ?_
 refine AW.text ?_
 refine RG.runO ty_ok 0 [(17,.i .i64 ((m:Nat):Int))] 400 rfl jD ?_
 refine jB ?_;refine wF ?_;refine wH rfl ?_;refine jB ?_
 refine AW.text ?_
 refine RG.runO ty_ok 0 [(22,.i .i64 ((a+m / 4*1:Nat):Int))] 400 rfl jD ?_
 refine jB ?_
 refine AW.text ?_
 refine RG.runO ty_ok 0 [(27,.i .i64 ((a+m / 4*2:Nat):Int))] 400 rfl jD ?_
 refine jB ?_
 refine AW.text ?_
 refine RG.runO ty_ok 0 [(32,.i .i64 ((a+m / 4*3:Nat):Int))] 400 rfl jD ?_
 refine jA ?_
 refine AW.cutT (ι:=Unit) (fun _=>[(11,.own 11 0 0),(13,.i .i64 ((R.1:Nat):Int))]) (fun _=>pvB q l n d R.2) (fun _=>True) ?_ fun _ _=>?_
 ·refine AW.cond rfl (fun h0=>?_) (fun h0=>?_)
  rotate_left
  ·have h:¬m>=8:=by
    have:=of_decide_eq_false h0
    simp only [Int.ofNat_eq_natCast] at this
    omega
   rw [if_neg h] at hR
   subst hR
   refine jA ?_
   exact ⟨(),trivial,⟨Rn.ownIs rfl rfl rfl,Rn.is rfl rfl,trivial⟩,pv_end rfl rfl rfl rfl rfl rfl rfl rfl (rowFit hn)⟩
  have h:m>=8:=by
   have:=of_decide_eq_true h0
   simp only [Int.ofNat_eq_natCast] at this
   omega
  rw [if_pos h] at hR
  refine jA ?_
  refine AW.cond rfl (fun h1=>?_) (fun h1=>?_)
  ·have k:m>=50:=by
    have:=of_decide_eq_true h1
    simp only [Int.ofNat_eq_natCast] at this
    omega
   rw [if_pos k] at hR
   have b1:a+m / 4*1+1<n:=by omega
   have b2:a+m / 4*2+1<n:=by omega
   have b3:a+m / 4*3+1<n:=by omega
   have b0:0<m / 4:=by omega
   have m1:=m_medAdj l L hL n hl d hn (a+m / 4*1) (by omega) b1 0 (by decide)
   have k1:=medAdj_lt (lt:=ltI l L) (d:=d) (c:=0) b1
   have c1:=Go.Sort.medianAdjacent_count (ltI l L) d (a+m / 4*1) 0
   generalize Go.Sort.medianAdjacent (ltI l L) d (a+m / 4*1) 0=r1 at hR m1 k1 c1
   have m2:=m_medAdj l L hL n hl d hn (a+m / 4*2) (by omega) b2 r1.2 (by omega)
   have k2:=medAdj_lt (lt:=ltI l L) (d:=d) (c:=r1.2) b2
   have c2:=Go.Sort.medianAdjacent_count (ltI l L) d (a+m / 4*2) r1.2
   generalize Go.Sort.medianAdjacent (ltI l L) d (a+m / 4*2) r1.2=r2 at hR m2 k2 c2
   have m3:=m_medAdj l L hL n hl d hn (a+m / 4*3) (by omega) b3 r2.2 (by omega)
   have k3:=medAdj_lt (lt:=ltI l L) (d:=d) (c:=r2.2) b3
   have c3:=Go.Sort.medianAdjacent_count (ltI l L) d (a+m / 4*3) r2.2
   generalize Go.Sort.medianAdjacent (ltI l L) d (a+m / 4*3) r2.2=r3 at hR m3 k3 c3
   have m4:=m_median l L hL n hl d hn r1.1 r2.1 r3.1 k1 k2 k3 r3.2 (by omega)
   rw [hR] at m4
   refine jA ?_
   refine RG.ownK [(11,230),(210,210),(201,201)] [(230,11),(210,210),(201,201)] 201 201 rfl (fun q=>m1 q) rfl rfl rfl rfl rfl rfl rfl rfl rfl rfl rfl rfl rfl ?_
   refine wH rfl ?_;refine jA ?_
   refine RG.ownK [(11,230),(210,210),(201,201)] [(230,11),(210,210),(201,201)] 201 201 rfl (fun q=>m2 q) rfl rfl rfl rfl rfl rfl rfl rfl rfl rfl rfl rfl rfl ?_
   refine wH rfl ?_;refine jA ?_
   refine RG.ownK [(11,230),(210,210),(201,201)] [(230,11),(210,210),(201,201)] 201 201 rfl (fun q=>m3 q) rfl rfl rfl rfl rfl rfl rfl rfl rfl rfl rfl rfl rfl ?_
   refine wH rfl ?_;refine jA ?_
   refine RG.ownK [(11,230),(210,210),(201,201)] [(230,11),(210,210),(201,201)] 201 201 rfl (fun q=>m4 q) rfl rfl rfl rfl rfl rfl rfl rfl rfl rfl rfl rfl rfl ?_
   refine wH rfl ?_;refine jA ?_
   exact ⟨(),trivial,⟨Rn.ownIs rfl rfl rfl,Rn.is rfl rfl,trivial⟩,pv_end rfl rfl rfl rfl rfl rfl rfl rfl (rowFit hn)⟩
  ·have k:¬m>=50:=by
    have:=of_decide_eq_false h1
    simp only [Int.ofNat_eq_natCast] at this
    omega
   rw [if_neg k] at hR
   have m4:=m_median l L hL n hl d hn (a+m / 4*1) (a+m / 4*2) (a+m / 4*3) (by omega) (by omega) (by omega) 0 (by decide)
   rw [hR] at m4
   refine jA ?_
   refine RG.ownK [(11,230),(210,210),(201,201)] [(230,11),(210,210),(201,201)] 201 201 rfl (fun q=>m4 q) rfl rfl rfl rfl rfl rfl rfl rfl rfl rfl rfl rfl rfl ?_
   refine wH rfl ?_;refine jA ?_
   exact ⟨(),trivial,⟨Rn.ownIs rfl rfl rfl,Rn.is rfl rfl,trivial⟩,pv_end rfl rfl rfl rfl rfl rfl rfl rfl (rowFit hn)⟩
 clear hR w1 w2 w3
 rw [Go.Sort.hintOf]
 refine jA ?_
 refine AW.cond rfl (fun h0=>?_) (fun h0=>?_)
 ·have h:R.2=0:=by
   have:=of_decide_eq_true h0
   simp only [Int.ofNat_eq_natCast] at this
   omega
  rw [if_pos h]
  refine jA ?_
  exact AW.ret (retM2 rfl (Rm.is rfl rfl) (Rm.is rfl rfl) (io_end rfl rfl rfl rfl rfl (rfl) (rowFit (by assumption))))
 have h:¬R.2=0:=by
  have:=of_decide_eq_false h0
  simp only [Int.ofNat_eq_natCast] at this
  omega
 rw [if_neg h]
 refine jA ?_
 refine AW.cond rfl (fun h1=>?_) (fun h1=>?_)
 ·have k:R.2=12:=by
   have:=of_decide_eq_true h1
   simp only [Int.ofNat_eq_natCast] at this
   omega
  rw [if_pos k]
  refine jA ?_
  exact AW.ret (retM2 rfl (Rm.is rfl rfl) (Rm.is rfl rfl) (io_end rfl rfl rfl rfl rfl (rfl) (rowFit (by assumption))))
 ·have k:¬R.2=12:=by
   have:=of_decide_eq_false h1
   simp only [Int.ofNat_eq_natCast] at this
   omega
  rw [if_neg k]
  refine jA ?_
  exact AW.ret (retM2 rfl (Rm.is rfl rfl) (Rm.is rfl rfl) (io_end rfl rfl rfl rfl rfl (rfl) (rowFit (by assumption))))
section
variable {α : Type} [Inhabited α] {lt : α -> α -> Bool}
def chB (lt:α->α->Bool) (hi first root:Nat) (d:Array α):Bool:=decide (2*root+1+1<hi) && lt d[first+(2*root+1)]! d[first+(2*root+1)+1]!
def chN (lt:α->α->Bool) (hi first root:Nat) (d:Array α):Nat:=bif chB lt hi first root d then 2*root+2 else 2*root+1
theorem chN_lt {hi first root:Nat} {d:Array α} (h:¬2*root+1>=hi):root<chN lt hi first root d/\chN lt hi first root d<hi:=by
 rw [chN]
 cases e:chB lt hi first root d
 ·rw [cond_false];omega
 ·rw [chB,Bool.and_eq_true,decide_eq_true_eq] at e
  rw [cond_true];omega
theorem sift_go {hi first root:Nat} {d:Array α} (h:¬2*root+1>=hi):Go.Sort.siftDown lt hi first root d=bif lt d[first+root]! d[first+chN lt hi first root d]! then Go.Sort.siftDown lt hi first (chN lt hi first root d) (swp d (first+root) (first+chN lt hi first root d)) else d:=by
  have hc:=chN_lt (lt:=lt) (first:=first) (d:=d) h
  rw [Go.Sort.siftDown,dif_neg h]
  rw [chN] at hc ⊢
  rw [chB] at hc ⊢
  cases e:(decide (2*root+1+1<hi) && lt d[first+(2*root+1)]! d[first+(2*root+1)+1]!)
  · rw [if_neg (by simp)]
    simp only [cond_false]
    cases lt d[first+root]! d[first+(2*root+1)]!
    · rfl
    · rfl
  · rw [e,cond_true] at hc
    rw [if_pos rfl]
    simp only [cond_true]
    cases lt d[first+root]! d[first+(2*root+2)]!
    · rfl
    · rw [if_neg (by simp),dif_pos hc.2];rfl
theorem sift_stop {hi first root:Nat} {d:Array α} (h:2*root+1>=hi):Go.Sort.siftDown lt hi first root d=d:=by
 rw [Go.Sort.siftDown,dif_pos h]
theorem sift_sz {hi first:Nat}:∀(f root:Nat) (d:Array α),hi - root<=f->(Go.Sort.siftDown lt hi first root d).size=d.size
 | 0,root,d,hf=>by rw [sift_stop (by omega)]
 | f+1,root,d,hf=>by
  by_cases h:2*root+1>=hi
  ·rw [sift_stop h]
  ·have hc:=chN_lt (lt:=lt) (first:=first) (d:=d) h
   rw [sift_go h]
   cases lt d[first+root]! d[first+chN lt hi first root d]!
   ·rfl
   ·rw [cond_true,sift_sz f _ _ (by omega),swp_sz]
theorem build_sz {hi first:Nat}:∀(k:Nat) (d:Array α),(Go.Sort.heapBuild lt hi first k d).size=d.size
 | 0,d=>rfl
 | k+1,d=>by rw [Go.Sort.heapBuild,build_sz k,sift_sz _ _ _ (Nat.le_refl _)]
theorem pop_sz {first:Nat}:∀(k:Nat) (d:Array α),(Go.Sort.heapPop lt first k d).size=d.size
 | 0,d=>rfl
 | k+1,d=>by rw [Go.Sort.heapPop,pop_sz k,sift_sz _ _ _ (Nat.le_refl _),swp_sz]
end
theorem m_sift (l:List Rl) (L:Nat) (hL:l.length=L+1) (n:Nat) (hl:n<=100000) (d:Array (Fin (L+1))) (hn:d.size=n) (root hi first:Nat) (hr:root<=n) (hf:first+hi<=n) (q:Nat->Option (Nat × Nat)):MDoes Tryz.prog 318 [.row 201 0 0 n,.i .i64 ((root:Nat):Int),.i .i64 ((hi:Nat):Int),.i .i64 ((first:Nat):Int),.fn 300 [.own 210 0 0] []] (gl q [210,201] (ioB l n (d))) (.tup []) (gl q [210,201] (ioB l n (Go.Sort.siftDown (ltI l L) hi first root d))):=by
  refine MDoes.of_body Tryz.func318 rfl (by kernel_rfl) rfl rfl ?_
  generalize hG:Go.Sort.siftDown (ltI l L) hi first root d=G
  refine jA ?_
  refine AW.loopL (ι:=Nat × Array (Fin (L+1))) (fun x=>[(0,.row 201 0 0 n),(2,.i .i64 ((hi:Nat):Int)),(3,.i .i64 ((first:Nat):Int)),(4,.fn 300 [.own 210 0 0] []),(10,.i .i64 ((x.1:Nat):Int))]) (fun x=>gl q [210,201] (ioB l n (x.2))) (fun x=>(x.1<=n/\x.2.size=n)/\Go.Sort.siftDown (ltI l L) hi first x.1 x.2=G) (fun x=>hi - x.1) (root,d) ⟨⟨hr,hn⟩,hG⟩ ⟨Rn.rowIs rfl rfl rfl,Rn.is rfl rfl,Rn.is rfl rfl,Rn.fnO rfl rfl rfl,Rn.is rfl rfl,trivial⟩ (io_end rfl rfl rfl rfl rfl (rfl) (rowFit (by assumption))) fun x hx=>?_
  clear hG hn hr
  obtain ⟨root,m⟩:=x
  obtain ⟨⟨hr,hm⟩,hG⟩:=hx
  simp only at hr hm hG
  have wc:IntKind.i64.wrap (IntKind.i64.wrap (Int.ofNat 2*((root:Nat):Int))+Int.ofNat 1)=((2*root+1:Nat):Int):=by
    have e:IntKind.i64.wrap (Int.ofNat 2*((root:Nat):Int))=((2*root:Nat):Int):=by rw [IntKind.wrap_i64];simp only [Int.ofNat_eq_natCast];omega
    rw [e,IntKind.wrap_i64];simp only [Int.ofNat_eq_natCast];omega
  have w2:IntKind.i64.wrap (((2*root+1:Nat):Int)+Int.ofNat 1)=((2*root+1+1:Nat):Int):=by simp only [IntKind.wrap_i64,Int.ofNat_eq_natCast];omega
  refine jB ?_
  refine AW.text ?_
  refine RG.runO ty_ok 0 [(15,.i .i64 ((2*root+1:Nat):Int))] 400 rfl jD ?_
  refine jA ?_
  refine AW.cond rfl (fun h0=>?_) (fun h0=>?_)
  · have h : 2 * root + 1 >= hi := by
      have:=of_decide_eq_true h0
      omega
    rw [sift_stop h] at hG
    subst hG
    refine jA ?_
    refine AW.exit ?_;refine Eq.mpr (if_neg (by decide)) ?_;refine Eq.mpr (if_pos rfl) ?_;refine jA ?_
    exact retM0 rfl (.inl rfl) (io_end rfl rfl rfl rfl rfl (rfl) (rowFit (by assumption)))
  have h:¬2*root+1>=hi:=by
    have:=of_decide_eq_false h0
    omega
  have hc:=chN_lt (lt:=ltI l L) (first:=first) (d:=m) h
  rw [sift_go h] at hG
  refine jB ?_
  refine AW.cutT (ι:=Unit) (fun _=>[(0,.row 201 0 0 n),(2,.i .i64 ((hi:Nat):Int)),(3,.i .i64 ((first:Nat):Int)),(4,.fn 300 [.own 210 0 0] []),(10,.i .i64 ((root:Nat):Int)),(11,.i .i64 ((2*root+1:Nat):Int)),(40,.b (chB (ltI l L) hi first root m))]) (fun _=>gl q [210,201] (ioB l n (m))) (fun _=>True) ?_ fun _ _=>?_
  · refine AW.draws mixed_ok ?_
    by_cases g1:((2*root+1+1:Nat):Int)<((hi:Nat):Int)
    · refine RG.runO ty_ok 0 [(20,.i .i64 ((2*root+1+1:Nat):Int)),(22,.b true)] 400 rfl jD ?_
      have w4:IntKind.i64.wrap (((first:Nat):Int)+((2*root+1:Nat):Int))=((first+(2*root+1):Nat):Int):=by rw [IntKind.wrap_i64];omega
      have w5:IntKind.i64.wrap (((first+(2*root+1):Nat):Int)+Int.ofNat 1)=((first+(2*root+1)+1:Nat):Int):=by simp only [IntKind.wrap_i64,Int.ofNat_eq_natCast];omega
      refine RG.opS rfl (op_ixW (first+(2*root+1)) numF (m.toList) (by omega) rfl (tab_ok ty_ok rfl) rfl (tab_ok ty_ok rfl) rfl rfl rfl jX) rfl ?_
      refine RG.opS rfl (op_ldW (first+(2*root+1)) numF (m) (by omega) rfl (tab_ok ty_ok rfl) rfl rfl rfl) rfl ?_
      refine RG.runO ty_ok 0 [(34,.i .i64 ((first+(2*root+1):Nat):Int)),(35,.i .i64 ((first+(2*root+1)+1:Nat):Int))] 400 rfl jD ?_
      refine RG.opS rfl (op_ixW (first+(2*root+1)+1) numF (m.toList) (by omega) rfl (tab_ok ty_ok rfl) rfl (tab_ok ty_ok rfl) rfl rfl rfl jX) rfl ?_
      refine RG.opS rfl (op_ldW (first+(2*root+1)+1) numF (m) (by omega) rfl (tab_ok ty_ok rfl) rfl rfl rfl) rfl ?_
      refine wH rfl ?_
      refine RG.ownK [(210,210),(201,201)] [(210,210),(201,201)] 201 201 rfl (fun q=>m_compare l L hL n (m) (m[first+(2*root+1)]!) (m[first+(2*root+1)+1]!) q (rowFit (by assumption))) rfl rfl rfl rfl rfl rfl rfl rfl rfl rfl rfl rfl rfl ?_
      refine wH rfl ?_;refine jB ?_
      exact ⟨(),trivial,⟨Rn.rowIs rfl rfl rfl,Rn.is rfl rfl,Rn.is rfl rfl,Rn.fnO rfl rfl rfl,Rn.is rfl rfl,Rn.is rfl rfl,Rn.is (congrArg AV.b (by rw [chB,decide_eq_true (show 2*root+1+1<hi by omega),Bool.true_and];rfl)) rfl,trivial⟩,io_end rfl rfl rfl rfl rfl (rfl) (rowFit (by assumption))⟩
    · refine RG.runO ty_ok 0 [(20,.i .i64 ((2*root+1+1:Nat):Int)),(22,.b false)] 400 rfl jD ?_
      refine jB ?_
      exact ⟨(),trivial,⟨Rn.rowIs rfl rfl rfl,Rn.is rfl rfl,Rn.is rfl rfl,Rn.fnO rfl rfl rfl,Rn.is rfl rfl,Rn.is rfl rfl,Rn.is (congrArg AV.b (by rw [chB,decide_eq_false (show ¬2*root+1+1<hi by omega),Bool.false_and])) rfl,trivial⟩,io_end rfl rfl rfl rfl rfl (rfl) (rowFit (by assumption))⟩
  obtain ⟨ch,hch⟩:∃c,chN (ltI l L) hi first root m=c:=⟨_,rfl⟩
  rw [hch] at hc hG
  rw [chN] at hch
  refine jB ?_
  refine AW.cutT (ι:=Unit) (fun _=>[(0,.row 201 0 0 n),(2,.i .i64 ((hi:Nat):Int)),(3,.i .i64 ((first:Nat):Int)),(4,.fn 300 [.own 210 0 0] []),(10,.i .i64 ((root:Nat):Int)),(11,.i .i64 ((ch:Nat):Int))]) (fun _=>gl q [210,201] (ioB l n (m))) (fun _=>True) ?_ fun _ _=>?_
  · refine AW.cond rfl (fun h1=>?_) (fun h1=>?_)
    · rw [h1,cond_true] at hch
      subst hch
      refine jA ?_
      exact ⟨(),trivial,⟨Rn.rowIs rfl rfl rfl,Rn.is rfl rfl,Rn.is rfl rfl,Rn.fnO rfl rfl rfl,Rn.is rfl rfl,Rn.is (congrArg (AV.i .i64) w2) rfl,trivial⟩,io_end rfl rfl rfl rfl rfl (rfl) (rowFit (by assumption))⟩
    · rw [h1,cond_false] at hch
      subst hch
      refine jA ?_
      exact ⟨(),trivial,⟨Rn.rowIs rfl rfl rfl,Rn.is rfl rfl,Rn.is rfl rfl,Rn.fnO rfl rfl rfl,Rn.is rfl rfl,Rn.is rfl rfl,trivial⟩,io_end rfl rfl rfl rfl rfl (rfl) (rowFit (by assumption))⟩
  refine jB ?_
  refine AW.draws mixed_ok ?_
  refine wH rfl ?_;refine RG.opS rfl (op_ixW (first+root) numF ((m).toList) (by omega) rfl (tab_ok ty_ok rfl) rfl (tab_ok ty_ok rfl) rfl rfl rfl jX) rfl ?_;refine RG.opS rfl (op_ldW (first+root) numF (m) (by omega) rfl (tab_ok ty_ok rfl) rfl rfl rfl) rfl ?_
  refine wH rfl ?_;refine RG.opS rfl (op_ixW (first+ch) numF ((m).toList) (by omega) rfl (tab_ok ty_ok rfl) rfl (tab_ok ty_ok rfl) rfl rfl rfl jX) rfl ?_;refine RG.opS rfl (op_ldW (first+ch) numF (m) (by omega) rfl (tab_ok ty_ok rfl) rfl rfl rfl) rfl ?_
  refine wH rfl ?_
  refine RG.ownK [(210,210),(201,201)] [(210,210),(201,201)] 201 201 rfl (fun q=>m_compare l L hL n (m) (m[first+root]!) (m[first+ch]!) q (rowFit (by assumption))) rfl rfl rfl rfl rfl rfl rfl rfl rfl rfl rfl rfl rfl ?_
  refine wH rfl ?_;refine jB ?_
  refine AW.cond rfl (fun h1=>?_) (fun h1=>?_)
  · rw [show ltI l L m[first+root]! m[first+ch]! = false from by rw [ltI];simpa using h1,cond_false] at hG
    subst hG
    refine jA ?_
    exact AW.ret (retM0 rfl (.inr rfl) (io_end rfl rfl rfl rfl rfl (rfl) (rowFit (by assumption))))
  · rw [show ltI l L m[first+root]! m[first+ch]! = true from by rw [ltI];simpa using h1,cond_true] at hG
    have hm2:=(swp_sz m (first+root) (first+ch)).trans hm
    refine jB ?_
    refine AW.draws mixed_ok ?_
    refine wH rfl ?_;refine RG.opS rfl (op_ixW (first+ch) numF ((m).toList) (by omega) rfl (tab_ok ty_ok rfl) rfl (tab_ok ty_ok rfl) rfl rfl rfl jX) rfl ?_;refine RG.opS rfl (op_ldW (first+ch) numF (m) (by omega) rfl (tab_ok ty_ok rfl) rfl rfl rfl) rfl ?_;refine wH rfl ?_;refine RG.opS rfl (op_ixW (first+root) numF ((m).toList) (by omega) rfl (tab_ok ty_ok rfl) rfl (tab_ok ty_ok rfl) rfl rfl rfl jX) rfl ?_;refine RG.opS rfl (op_ldW (first+root) numF (m) (by omega) rfl (tab_ok ty_ok rfl) rfl rfl rfl) rfl ?_;refine wH rfl ?_;refine RG.opS rfl (op_ixW (first+root) numF ((m).toList) (by omega) rfl (tab_ok ty_ok rfl) rfl (tab_ok ty_ok rfl) rfl rfl rfl jX) rfl ?_;refine RG.opS rfl (op_stW (first+root) numF ((m).toList) ((m)[first+ch]!) (by simp only [List.length_set,Array.length_toList];omega) rfl (tab_ok ty_ok rfl) rfl rfl rfl rfl rfl (fun _=>rfl)) rfl ?_;refine wH rfl ?_;refine RG.opS rfl (op_ixW (first+ch) numF (((m).toList.set (first+root) (m)[first+ch]!)) (by omega) rfl (tab_ok ty_ok rfl) rfl (tab_ok ty_ok rfl) rfl rfl rfl jX) rfl ?_;refine RG.opS rfl (op_stW (first+ch) numF (((m).toList.set (first+root) (m)[first+ch]!)) ((m)[first+root]!) (by simp only [List.length_set,Array.length_toList];omega) rfl (tab_ok ty_ok rfl) rfl rfl rfl rfl rfl (fun _=>rfl)) rfl ?_
    refine wH rfl ?_;refine jA ?_
    exact ⟨(ch,swp m (first+root) (first+ch)),⟨⟨⟨by show ch<=n;omega,hm2⟩,hG⟩,by show hi - ch<hi - root;omega⟩,⟨Rn.rowTIs rfl rfl rfl (rowFit (hm2)),Rn.is rfl rfl,Rn.is rfl rfl,Rn.fnO rfl rfl rfl,Rn.is rfl rfl,trivial⟩,io_end rfl rfl rfl rfl rfl (by rw [swp_list]) (rowFit (by assumption))⟩
theorem m_heap (l:List Rl) (L:Nat) (hL:l.length=L+1) (n:Nat) (hl:n<=100000) (d:Array (Fin (L+1))) (hn:d.size=n) (a b:Nat) (ha:a<b) (hb:b<=n) (q:Nat->Option (Nat × Nat)):MDoes Tryz.prog 311 [.row 201 0 0 n,.i .i64 ((a:Nat):Int),.i .i64 ((b:Nat):Int),.fn 300 [.own 210 0 0] []] (gl q [210,201] (ioB l n (d))) (.tup []) (gl q [210,201] (ioB l n (Go.Sort.heapSort (ltI l L) d a b))):=by
 refine MDoes.of_body Tryz.func311 rfl (by kernel_rfl) rfl rfl ?_
 generalize hG:Go.Sort.heapSort (ltI l L) d a b=G
 rw [Go.Sort.heapSort] at hG
 have wl:IntKind.i64.wrap (((b:Nat):Int) - ((a:Nat):Int))=((b - a:Nat):Int):=by rw [IntKind.wrap_i64];omega
 generalize hh:b - a=hi at wl hG
 have w1:IntKind.i64.wrap (Int.tdiv (IntKind.i64.wrap (((hi:Nat):Int) - Int.ofNat 1)) (Int.ofNat 2))=(((hi - 1) / 2+1:Nat):Int) - 1:=by
  have e:IntKind.i64.wrap (((hi:Nat):Int) - Int.ofNat 1)=((hi - 1:Nat):Int):=by rw [IntKind.wrap_i64];simp only [Int.ofNat_eq_natCast];omega
  rw [e,Int.tdiv_eq_ediv_of_nonneg (by omega),IntKind.wrap_i64];simp only [Int.ofNat_eq_natCast];omega
 refine jB ?_;refine wF ?_;refine wH rfl ?_;refine jB ?_;refine wF ?_;refine wH rfl ?_;refine jB ?_
 refine AW.text ?_
 refine RG.runO ty_ok 0 [(16,.i .i64 ((hi:Nat):Int))] 400 rfl jD ?_
 refine jA ?_
 refine AW.loopL (ι:=Nat × Array (Fin (L+1))) (fun x=>[(0,.row 201 0 0 n),(3,.fn 300 [.own 210 0 0] []),(8,.i .i64 ((a:Nat):Int)),(9,.i .i64 ((0:Nat):Int)),(10,.i .i64 ((hi:Nat):Int)),(11,.i .i64 (((x.1:Nat):Int) - 1))]) (fun x=>gl q [210,201] (ioB l n (x.2))) (fun x=>(x.1<=hi/\x.2.size=n)/\Go.Sort.heapPop (ltI l L) a hi (Go.Sort.heapBuild (ltI l L) hi a x.1 x.2)=G) (fun x=>x.1) ((hi - 1) / 2+1,d) ⟨⟨by show (hi - 1) / 2+1<=hi;omega,hn⟩,hG⟩ ⟨Rn.rowIs rfl rfl rfl,Rn.fnO rfl rfl rfl,Rn.is rfl rfl,Rn.is rfl rfl,Rn.is rfl rfl,Rn.is (congrArg (AV.i .i64) (w1)) rfl,trivial⟩ (io_end rfl rfl rfl rfl rfl (rfl) (rowFit (by assumption))) fun x hx=>?_
 clear hG hn w1 d
 obtain ⟨k,m⟩:=x
 obtain ⟨⟨hk,hm⟩,hG⟩:=hx
 simp only at hk hm hG
 refine jA ?_
 refine AW.cond rfl (fun h0=>?_) (fun h0=>?_)
 ·have h:0<k:=by
   have:=of_decide_eq_true h0
   simp only [Int.ofNat_eq_natCast] at this
   omega
  obtain ⟨k,rfl⟩:∃z,k=z+1:=⟨k - 1,by omega⟩
  rw [Go.Sort.heapBuild] at hG
  have e1:(((k+1:Nat):Int) - 1)=((k:Nat):Int):=by omega
  have e2:IntKind.i64.wrap ((((k+1:Nat):Int) - 1) - Int.ofNat 1)=(((k:Nat):Int) - 1):=by rw [IntKind.wrap_i64];simp only [Int.ofNat_eq_natCast];omega
  have hs:=sift_sz (lt:=ltI l L) (hi:=hi) (first:=a) _ k m (Nat.le_refl _)
  refine jB ?_
  refine AW.text ?_
  refine RG.runO ty_ok 0 [(25,.i .i64 ((k:Nat):Int))] 400 rfl jD ?_
  refine RG.ownK [(210,210),(201,201)] [(210,210),(201,201)] 201 201 (rowLen (hs)) (fun q=>m_sift l L hL n hl m hm k hi a (by omega) (by omega) q) rfl rfl rfl rfl rfl rfl rfl rfl rfl rfl rfl rfl rfl ?_
  refine wH rfl ?_;refine jA ?_
  exact ⟨(k,Go.Sort.siftDown (ltI l L) hi a k m),⟨⟨⟨by show k<=hi;omega,hs.trans hm⟩,hG⟩,by show k<k+1;omega⟩,⟨Rn.rowIs rfl rfl rfl,Rn.fnO rfl rfl rfl,Rn.is rfl rfl,Rn.is rfl rfl,Rn.is rfl rfl,Rn.is (congrArg (AV.i .i64) (e2)) rfl,trivial⟩,io_end rfl rfl rfl rfl rfl (rfl) (rowFit (hs.trans hm))⟩
 have h:k=0:=by
  have:=of_decide_eq_false h0
  simp only [Int.ofNat_eq_natCast] at this
  omega
 subst h
 rw [Go.Sort.heapBuild] at hG
 have w1:IntKind.i64.wrap (((hi:Nat):Int) - Int.ofNat 1)=(((hi:Nat):Int) - 1):=by rw [IntKind.wrap_i64];simp only [Int.ofNat_eq_natCast];omega
 refine jA ?_
 refine AW.exit ?_;refine Eq.mpr (if_pos rfl) ?_;refine jA ?_
 refine AW.loopL (ι:=Nat × Array (Fin (L+1))) (fun x=>[(0,.row 201 0 0 n),(3,.fn 300 [.own 210 0 0] []),(8,.i .i64 ((a:Nat):Int)),(9,.i .i64 ((0:Nat):Int)),(10,.i .i64 ((hi:Nat):Int)),(12,.i .i64 (((x.1:Nat):Int) - 1))]) (fun x=>gl q [210,201] (ioB l n (x.2))) (fun x=>(x.1<=hi/\x.2.size=n)/\Go.Sort.heapPop (ltI l L) a x.1 x.2=G) (fun x=>x.1) (hi,m) ⟨⟨Nat.le_refl _,hm⟩,hG⟩ ⟨Rn.rowIs rfl rfl rfl,Rn.fnO rfl rfl rfl,Rn.is rfl rfl,Rn.is rfl rfl,Rn.is rfl rfl,Rn.is (congrArg (AV.i .i64) (w1)) rfl,trivial⟩ (io_end rfl rfl rfl rfl rfl (rfl) (rowFit (by assumption))) fun x hx=>?_
 clear hG hm w1
 obtain ⟨k,m⟩:=x
 obtain ⟨⟨hk,hm⟩,hG⟩:=hx
 simp only at hk hm hG
 refine jA ?_
 refine AW.cond rfl (fun h0=>?_) (fun h0=>?_)
 rotate_left
 ·have h:k=0:=by
   have:=of_decide_eq_false h0
   simp only [Int.ofNat_eq_natCast] at this
   omega
  subst h
  rw [Go.Sort.heapPop] at hG
  subst hG
  refine jA ?_
  refine AW.exit ?_;refine Eq.mpr (if_pos rfl) ?_;refine jA ?_
  exact retM0 rfl (.inl rfl) (io_end rfl rfl rfl rfl rfl (rfl) (rowFit (by assumption)))
 have h:0<k:=by
  have:=of_decide_eq_true h0
  simp only [Int.ofNat_eq_natCast] at this
  omega
 obtain ⟨k,rfl⟩:∃z,k=z+1:=⟨k - 1,by omega⟩
 rw [Go.Sort.heapPop] at hG
 have e1:(((k+1:Nat):Int) - 1)=((k:Nat):Int):=by omega
 have e2:IntKind.i64.wrap ((((k+1:Nat):Int) - 1) - Int.ofNat 1)=(((k:Nat):Int) - 1):=by rw [IntKind.wrap_i64];simp only [Int.ofNat_eq_natCast];omega
 have hm2:=(swp_sz m a (a+k)).trans hm
 have hs:=sift_sz (lt:=ltI l L) (hi:=k) (first:=a) _ 0 (swp m a (a+k)) (Nat.le_refl _)
 refine jB ?_
 refine AW.draws mixed_ok ?_
 refine RG.runO ty_ok 0 [(40,.i .i64 ((k:Nat):Int)),(44,.i .i64 ((k:Nat):Int))] 400 rfl jD ?_
 refine RG.opS rfl (op_ixW (a+k) numF (m.toList) (by omega) rfl (tab_ok ty_ok rfl) rfl (tab_ok ty_ok rfl) rfl rfl rfl jX) rfl ?_
 refine RG.opS rfl (op_ldW (a+k) numF (m) (by omega) rfl (tab_ok ty_ok rfl) rfl rfl rfl) rfl ?_
 refine wH rfl ?_;refine RG.opS rfl (op_ixW (a) numF ((m).toList) (by omega) rfl (tab_ok ty_ok rfl) rfl (tab_ok ty_ok rfl) rfl rfl rfl jX) rfl ?_;refine RG.opS rfl (op_ldW (a) numF (m) (by omega) rfl (tab_ok ty_ok rfl) rfl rfl rfl) rfl ?_
 refine wH rfl ?_;refine RG.opS rfl (op_ixW (a) numF (m.toList) (by omega) rfl (tab_ok ty_ok rfl) rfl (tab_ok ty_ok rfl) rfl rfl rfl jX) rfl ?_
 refine RG.opS rfl (op_stW (a) numF (m.toList) (m[a+k]!) (by simp only [List.length_set,Array.length_toList];omega) rfl (tab_ok ty_ok rfl) rfl rfl rfl rfl rfl (fun _=>rfl)) rfl ?_
 refine wH rfl ?_;refine RG.opS rfl (op_ixW (a+k) numF ((m.toList.set a m[a+k]!)) (by omega) rfl (tab_ok ty_ok rfl) rfl (tab_ok ty_ok rfl) rfl rfl rfl jX) rfl ?_
 refine RG.opS rfl (op_stW (a+k) numF ((m.toList.set a m[a+k]!)) (m[a]!) (by simp only [List.length_set,Array.length_toList];omega) rfl (tab_ok ty_ok rfl) rfl rfl rfl rfl rfl (fun _=>rfl)) rfl ?_
 rw [<- swp_list]
 refine wH rfl ?_;refine jB ?_
 refine AW.text ?_
 refine RG.runO ty_ok 0 [(56,.i .i64 ((k:Nat):Int))] 400 rfl jD ?_
 refine RG.ownK [(210,210),(201,201)] [(210,210),(201,201)] 201 201 (rowLen (hs)) (fun q=>m_sift l L hL n hl (swp m a (a+k)) hm2 0 k a (by omega) (by omega) q) rfl rfl rfl rfl rfl rfl rfl rfl rfl rfl rfl rfl rfl ?_
 refine wH rfl ?_;refine jA ?_
 exact ⟨(k,Go.Sort.siftDown (ltI l L) k a 0 (swp m a (a+k))),⟨⟨⟨by show k<=hi;omega,hs.trans hm2⟩,hG⟩,by show k<k+1;omega⟩,⟨Rn.rowIs rfl rfl rfl,Rn.fnO rfl rfl rfl,Rn.is rfl rfl,Rn.is rfl rfl,Rn.is rfl rfl,Rn.is (congrArg (AV.i .i64) (e2)) rfl,trivial⟩,io_end rfl rfl rfl rfl rfl (rfl) (rowFit (hs.trans hm2))⟩
end Go.Proofs.YtoaibdbehlcnfaaGreat.Sm
end
section
namespace Go.Proofs.YtoaibdbehlcnfaaGreat.Sm
open Go.RowKit
open Go.Sort (swp)
section
variable {α : Type} [Inhabited α] {lt : α -> α -> Bool}
theorem scanUp_eq (p:α->Bool) (d:Array α) (j i:Nat):Go.Sort.scanUp p d j i=bif (decide (i<=j) && p d[i]!) then Go.Sort.scanUp p d j (i+1) else i:=by
 rw [Go.Sort.scanUp]
 cases (decide (i<=j) && p d[i]!)
 ·rw [if_neg (by simp)];rfl
 ·rw [if_pos rfl];rfl
theorem scanDown_eq (p:α->Bool) (d:Array α) {i:Nat} (hi:0<i) (j:Nat):Go.Sort.scanDown p d i j=bif (decide (i<=j) && p d[j]!) then Go.Sort.scanDown p d i (j - 1) else j:=by
 cases j with
 | zero=>rw [decide_eq_false (show ¬i<=0 by omega),Bool.false_and];rfl
 | succ j =>
  rw [Go.Sort.scanDown,Nat.add_sub_cancel]
  cases (decide (i<=j+1) && p d[j+1]!)
  ·rw [if_neg (by simp)];rfl
  ·rw [if_pos rfl];rfl
theorem part_eq {d m:Array α} {a b pivot I J:Nat} (hm:swp d a pivot=m) (hI:Go.Sort.scanUp (fun x=>lt x m[a]!) m (b - 1) (a+1)=I) (hJ:Go.Sort.scanDown (fun x=>!lt x m[a]!) m I (b - 1)=J) :
  Go.Sort.partition lt d a b pivot=if I>J then (J,true,swp m J a) else ((Go.Sort.partLoop lt a (I+1) (J - 1) (swp m I J)).1,false,swp (Go.Sort.partLoop lt a (I+1) (J - 1) (swp m I J)).2 (Go.Sort.partLoop lt a (I+1) (J - 1) (swp m I J)).1 a):=by
 subst hm hI hJ
 rfl
theorem loop_eq {m:Array α} {a i j I J:Nat} (hI:Go.Sort.scanUp (fun x=>lt x m[a]!) m j i=I) (hJ:Go.Sort.scanDown (fun x=>!lt x m[a]!) m I j=J) :
  Go.Sort.partLoop lt a i j m=if I>J then (J,m) else Go.Sort.partLoop lt a (I+1) (J - 1) (swp m I J):=by
 rw [Go.Sort.partLoop_eq,hI,hJ]
theorem eqLoop_eq {m:Array α} {a i j I J:Nat} (hI:Go.Sort.scanUp (fun x=>!lt m[a]! x) m j i=I) (hJ:Go.Sort.scanDown (fun x=>lt m[a]! x) m I j=J) :
  Go.Sort.partEqLoop lt a i j m=if I>J then (I,m) else Go.Sort.partEqLoop lt a (I+1) (J - 1) (swp m I J):=by
 rw [Go.Sort.partEqLoop_eq,hI,hJ]
end
theorem m_part (l:List Rl) (L:Nat) (hL:l.length=L+1) (n:Nat) (hl:n<=100000) (d:Array (Fin (L+1))) (hn:d.size=n) (a b pivot:Nat) (ha:a<=pivot) (hp:pivot<b) (hb:b<=n) (q:Nat->Option (Nat × Nat)):MDoes Tryz.prog 317 [.row 201 0 0 n,.i .i64 ((a:Nat):Int),.i .i64 ((b:Nat):Int),.i .i64 ((pivot:Nat):Int),.fn 300 [.own 210 0 0] []] (gl q [210,201] (ioB l n (d))) (.tup [.i .i64 (((Go.Sort.partition (ltI l L) d a b pivot).1:Nat):Int),.b (Go.Sort.partition (ltI l L) d a b pivot).2.1]) (gl q [210,201] (ioB l n ((Go.Sort.partition (ltI l L) d a b pivot).2.2))):=by
  refine MDoes.of_body Tryz.func317 rfl (by kernel_rfl) rfl rfl ?_
  have hm:(swp d a pivot).size=n:=(swp_sz _ _ _).trans hn
  obtain ⟨m,e0⟩:∃m,swp d a pivot=m:=⟨_,rfl⟩
  obtain ⟨I,hI⟩:∃I,Go.Sort.scanUp (fun x=>ltI l L x m[a]!) m (b - 1) (a+1)=I:=⟨_,rfl⟩
  obtain ⟨J,hJ⟩:∃J,Go.Sort.scanDown (fun x=>!ltI l L x m[a]!) m I (b - 1)=J:=⟨_,rfl⟩
  rw [part_eq e0 hI hJ]
  have w1:IntKind.i64.wrap (((a:Nat):Int)+Int.ofNat 1)=((a+1:Nat):Int):=by simp only [IntKind.wrap_i64,Int.ofNat_eq_natCast];omega
  have w2:IntKind.i64.wrap (((b:Nat):Int) - Int.ofNat 1)=((b - 1:Nat):Int):=by simp only [IntKind.wrap_i64,Int.ofNat_eq_natCast];omega
  refine jB ?_
  refine AW.text ?_
  refine wH rfl ?_;refine jB ?_
  refine AW.draws mixed_ok ?_
  refine wH rfl ?_;refine RG.opS rfl (op_ixW (pivot) numF ((d).toList) (by omega) rfl (tab_ok ty_ok rfl) rfl (tab_ok ty_ok rfl) rfl rfl rfl jX) rfl ?_;refine RG.opS rfl (op_ldW (pivot) numF (d) (by omega) rfl (tab_ok ty_ok rfl) rfl rfl rfl) rfl ?_;refine wH rfl ?_;refine RG.opS rfl (op_ixW (a) numF ((d).toList) (by omega) rfl (tab_ok ty_ok rfl) rfl (tab_ok ty_ok rfl) rfl rfl rfl jX) rfl ?_;refine RG.opS rfl (op_ldW (a) numF (d) (by omega) rfl (tab_ok ty_ok rfl) rfl rfl rfl) rfl ?_;refine wH rfl ?_;refine RG.opS rfl (op_ixW (a) numF ((d).toList) (by omega) rfl (tab_ok ty_ok rfl) rfl (tab_ok ty_ok rfl) rfl rfl rfl jX) rfl ?_;refine RG.opS rfl (op_stW (a) numF ((d).toList) ((d)[pivot]!) (by simp only [List.length_set,Array.length_toList];omega) rfl (tab_ok ty_ok rfl) rfl rfl rfl rfl rfl (fun _=>rfl)) rfl ?_;refine wH rfl ?_;refine RG.opS rfl (op_ixW (pivot) numF (((d).toList.set (a) (d)[pivot]!)) (by omega) rfl (tab_ok ty_ok rfl) rfl (tab_ok ty_ok rfl) rfl rfl rfl jX) rfl ?_;refine RG.opS rfl (op_stW (pivot) numF (((d).toList.set (a) (d)[pivot]!)) ((d)[a]!) (by simp only [List.length_set,Array.length_toList];omega) rfl (tab_ok ty_ok rfl) rfl rfl rfl rfl rfl (fun _=>rfl)) rfl ?_
  rw [<- swp_list,e0]
  rw [e0] at hm
  clear e0 hn
  refine wH rfl ?_;refine jA ?_
  refine AW.loopL (ι:=Nat) (fun x=>[(0,.row 201 0 0 n),(1,.i .i64 ((a:Nat):Int)),(4,.fn 300 [.own 210 0 0] []),(12,.i .i64 ((x:Nat):Int)),(13,.i .i64 (((b - 1):Nat):Int))]) (fun _=>gl q [210,201] (ioB l n (m))) (fun x=>(a<x/\x<=b)/\Go.Sort.scanUp (fun x=>ltI l L x m[a]!) m (b - 1) x=I) (fun x=>(b - 1)+1 - x) ((a+1)) ⟨by omega,hI⟩ ⟨Rn.rowIs rfl rfl rfl,Rn.is rfl rfl,Rn.fnO rfl rfl rfl,Rn.is (congrArg (AV.i .i64) w1) rfl,Rn.is (congrArg (AV.i .i64) w2) rfl,trivial⟩ (io_end rfl rfl rfl rfl rfl (rfl) (rowFit (by assumption))) fun x hx=>?_
  clear hI
  obtain ⟨hx,hf⟩:=hx
  rw [scanUp_eq] at hf
  refine jB ?_
  refine AW.cutT (ι:=Unit) (fun _=>[(0,.row 201 0 0 n),(1,.i .i64 ((a:Nat):Int)),(4,.fn 300 [.own 210 0 0] []),(12,.i .i64 ((x:Nat):Int)),(13,.i .i64 (((b - 1):Nat):Int)),(47,.b (decide (x<=(b - 1)) && (ltI l L m[x]! m[a]!)))]) (fun _=>gl q [210,201] (ioB l n (m))) (fun _=>True) ?_ fun _ _=>?_
  · refine AW.draws mixed_ok ?_
    by_cases g1:((x:Nat):Int)<=(((b - 1):Nat):Int)
    · refine RG.runO ty_ok 0 [(34,.b true)] 400 rfl jD ?_
      refine wH rfl ?_;refine RG.opS rfl (op_ixW (x) numF ((m).toList) (by omega) rfl (tab_ok ty_ok rfl) rfl (tab_ok ty_ok rfl) rfl rfl rfl jX) rfl ?_;refine RG.opS rfl (op_ldW (x) numF (m) (by omega) rfl (tab_ok ty_ok rfl) rfl rfl rfl) rfl ?_
      refine wH rfl ?_;refine RG.opS rfl (op_ixW (a) numF ((m).toList) (by omega) rfl (tab_ok ty_ok rfl) rfl (tab_ok ty_ok rfl) rfl rfl rfl jX) rfl ?_;refine RG.opS rfl (op_ldW (a) numF (m) (by omega) rfl (tab_ok ty_ok rfl) rfl rfl rfl) rfl ?_
      refine wH rfl ?_
      refine RG.ownK [(210,210),(201,201)] [(210,210),(201,201)] 201 201 rfl (fun q=>m_compare l L hL n (m) (m[x]!) (m[a]!) q (rowFit (by assumption))) rfl rfl rfl rfl rfl rfl rfl rfl rfl rfl rfl rfl rfl ?_
      refine wH rfl ?_;refine jB ?_
      exact ⟨(),trivial,⟨Rn.rowIs rfl rfl rfl,Rn.is rfl rfl,Rn.fnO rfl rfl rfl,Rn.is rfl rfl,Rn.is rfl rfl,Rn.is (congrArg AV.b (by rw [decide_eq_true (show x<=(b - 1) by omega),Bool.true_and];rfl)) rfl,trivial⟩,io_end rfl rfl rfl rfl rfl (rfl) (rowFit (by assumption))⟩
    · refine RG.runO ty_ok 0 [(34,.b false)] 400 rfl jD ?_
      refine jB ?_
      exact ⟨(),trivial,⟨Rn.rowIs rfl rfl rfl,Rn.is rfl rfl,Rn.fnO rfl rfl rfl,Rn.is rfl rfl,Rn.is rfl rfl,Rn.is (congrArg AV.b (by rw [decide_eq_false (show ¬x<=(b - 1) by omega),Bool.false_and])) rfl,trivial⟩,io_end rfl rfl rfl rfl rfl (rfl) (rowFit (by assumption))⟩
  cases hb:(decide (x<=(b - 1)) && (ltI l L m[x]! m[a]!))
  rotate_left
  · rw [hb,cond_true] at hf
    have hle:x<=(b - 1):=by
      rw [Bool.and_eq_true,decide_eq_true_eq] at hb
      exact hb.1
    have w9:IntKind.i64.wrap (((x:Nat):Int)+Int.ofNat 1)=((x+1:Nat):Int):=by simp only [IntKind.wrap_i64,Int.ofNat_eq_natCast];omega
    refine AW.cond rfl (fun _=>?_) (fun h1=>by cases h1)
    refine jA ?_
    exact ⟨x+1,⟨⟨by omega,hf⟩,by omega⟩,⟨Rn.rowIs rfl rfl rfl,Rn.is rfl rfl,Rn.fnO rfl rfl rfl,Rn.is (congrArg (AV.i .i64) w9) rfl,Rn.is rfl rfl,trivial⟩,io_end rfl rfl rfl rfl rfl (rfl) (rowFit (by assumption))⟩
  rw [hb,cond_false] at hf
  clear hb
  obtain rfl:I=x:=hf.symm
  refine AW.cond rfl (fun h1=>by cases h1) (fun _=>?_)
  refine jA ?_
  refine AW.exit ?_;refine Eq.mpr (if_pos rfl) ?_;refine jA ?_
  refine AW.loopL (ι:=Nat) (fun x=>[(0,.row 201 0 0 n),(1,.i .i64 ((a:Nat):Int)),(4,.fn 300 [.own 210 0 0] []),(12,.i .i64 ((I:Nat):Int)),(13,.i .i64 ((x:Nat):Int))]) (fun _=>gl q [210,201] (ioB l n (m))) (fun x=>(a<=x/\x<=b - 1)/\Go.Sort.scanDown (fun x=>!ltI l L x m[a]!) m I x=J) (fun x=>x) ((b - 1)) ⟨by omega,hJ⟩ ⟨Rn.rowIs rfl rfl rfl,Rn.is rfl rfl,Rn.fnO rfl rfl rfl,Rn.is rfl rfl,Rn.is rfl rfl,trivial⟩ (io_end rfl rfl rfl rfl rfl (rfl) (rowFit (by assumption))) fun x hx=>?_
  clear hJ
  obtain ⟨hy,hf⟩:=hx
  rw [scanDown_eq _ _ (by omega)] at hf
  refine jB ?_
  refine AW.cutT (ι:=Unit) (fun _=>[(0,.row 201 0 0 n),(1,.i .i64 ((a:Nat):Int)),(4,.fn 300 [.own 210 0 0] []),(12,.i .i64 ((I:Nat):Int)),(13,.i .i64 ((x:Nat):Int)),(66,.b (decide (I<=x) && (!ltI l L m[x]! m[a]!)))]) (fun _=>gl q [210,201] (ioB l n (m))) (fun _=>True) ?_ fun _ _=>?_
  · refine AW.draws mixed_ok ?_
    by_cases g1:((I:Nat):Int)<=((x:Nat):Int)
    · refine RG.runO ty_ok 0 [(52,.b true)] 400 rfl jD ?_
      refine wH rfl ?_;refine RG.opS rfl (op_ixW (x) numF ((m).toList) (by omega) rfl (tab_ok ty_ok rfl) rfl (tab_ok ty_ok rfl) rfl rfl rfl jX) rfl ?_;refine RG.opS rfl (op_ldW (x) numF (m) (by omega) rfl (tab_ok ty_ok rfl) rfl rfl rfl) rfl ?_
      refine wH rfl ?_;refine RG.opS rfl (op_ixW (a) numF ((m).toList) (by omega) rfl (tab_ok ty_ok rfl) rfl (tab_ok ty_ok rfl) rfl rfl rfl jX) rfl ?_;refine RG.opS rfl (op_ldW (a) numF (m) (by omega) rfl (tab_ok ty_ok rfl) rfl rfl rfl) rfl ?_
      refine wH rfl ?_
      refine RG.ownK [(210,210),(201,201)] [(210,210),(201,201)] 201 201 rfl (fun q=>m_compare l L hL n (m) (m[x]!) (m[a]!) q (rowFit (by assumption))) rfl rfl rfl rfl rfl rfl rfl rfl rfl rfl rfl rfl rfl ?_
      refine wH rfl ?_;refine jB ?_
      exact ⟨(),trivial,⟨Rn.rowIs rfl rfl rfl,Rn.is rfl rfl,Rn.fnO rfl rfl rfl,Rn.is rfl rfl,Rn.is rfl rfl,Rn.is (congrArg AV.b (by rw [decide_eq_true (show I<=x by omega),Bool.true_and];rfl)) rfl,trivial⟩,io_end rfl rfl rfl rfl rfl (rfl) (rowFit (by assumption))⟩
    · refine RG.runO ty_ok 0 [(52,.b false)] 400 rfl jD ?_
      refine jB ?_
      exact ⟨(),trivial,⟨Rn.rowIs rfl rfl rfl,Rn.is rfl rfl,Rn.fnO rfl rfl rfl,Rn.is rfl rfl,Rn.is rfl rfl,Rn.is (congrArg AV.b (by rw [decide_eq_false (show ¬I<=x by omega),Bool.false_and])) rfl,trivial⟩,io_end rfl rfl rfl rfl rfl (rfl) (rowFit (by assumption))⟩
  cases hb:(decide (I<=x) && (!ltI l L m[x]! m[a]!))
  rotate_left
  · rw [hb,cond_true] at hf
    have hle:I<=x:=by
      rw [Bool.and_eq_true,decide_eq_true_eq] at hb
      exact hb.1
    have w9:IntKind.i64.wrap (((x:Nat):Int) - Int.ofNat 1)=((x - 1:Nat):Int):=by simp only [IntKind.wrap_i64,Int.ofNat_eq_natCast];omega
    refine AW.cond rfl (fun _=>?_) (fun h1=>by cases h1)
    refine jA ?_
    exact ⟨x - 1,⟨⟨by omega,hf⟩,by omega⟩,⟨Rn.rowIs rfl rfl rfl,Rn.is rfl rfl,Rn.fnO rfl rfl rfl,Rn.is rfl rfl,Rn.is (congrArg (AV.i .i64) w9) rfl,trivial⟩,io_end rfl rfl rfl rfl rfl (rfl) (rowFit (by assumption))⟩
  rw [hb,cond_false] at hf
  clear hb
  obtain rfl:J=x:=hf.symm
  refine AW.cond rfl (fun h1=>by cases h1) (fun _=>?_)
  refine jA ?_
  refine AW.exit ?_;refine Eq.mpr (if_pos rfl) ?_;refine jA ?_
  refine AW.cond rfl (fun h0=>?_) (fun h0=>?_)
  · have h : I > J := by
      have:=of_decide_eq_true h0
      try simp only at this
      omega
    rw [if_pos h]
    refine jB ?_
    refine AW.draws mixed_ok ?_
    refine wH rfl ?_;refine RG.opS rfl (op_ixW (a) numF ((m).toList) (by omega) rfl (tab_ok ty_ok rfl) rfl (tab_ok ty_ok rfl) rfl rfl rfl jX) rfl ?_;refine RG.opS rfl (op_ldW (a) numF (m) (by omega) rfl (tab_ok ty_ok rfl) rfl rfl rfl) rfl ?_;refine wH rfl ?_;refine RG.opS rfl (op_ixW (J) numF ((m).toList) (by omega) rfl (tab_ok ty_ok rfl) rfl (tab_ok ty_ok rfl) rfl rfl rfl jX) rfl ?_;refine RG.opS rfl (op_ldW (J) numF (m) (by omega) rfl (tab_ok ty_ok rfl) rfl rfl rfl) rfl ?_;refine wH rfl ?_;refine RG.opS rfl (op_ixW (J) numF ((m).toList) (by omega) rfl (tab_ok ty_ok rfl) rfl (tab_ok ty_ok rfl) rfl rfl rfl jX) rfl ?_;refine RG.opS rfl (op_stW (J) numF ((m).toList) ((m)[a]!) (by simp only [List.length_set,Array.length_toList];omega) rfl (tab_ok ty_ok rfl) rfl rfl rfl rfl rfl (fun _=>rfl)) rfl ?_;refine wH rfl ?_;refine RG.opS rfl (op_ixW (a) numF (((m).toList.set (J) (m)[a]!)) (by omega) rfl (tab_ok ty_ok rfl) rfl (tab_ok ty_ok rfl) rfl rfl rfl jX) rfl ?_;refine RG.opS rfl (op_stW (a) numF (((m).toList.set (J) (m)[a]!)) ((m)[J]!) (by simp only [List.length_set,Array.length_toList];omega) rfl (tab_ok ty_ok rfl) rfl rfl rfl rfl rfl (fun _=>rfl)) rfl ?_
    refine wH rfl ?_;refine jA ?_
    exact AW.ret (retM2 rfl (Rm.is rfl rfl) (Rm.is rfl rfl) (io_end rfl rfl rfl rfl rfl (by rw [swp_list]) (rowFit ((swp_sz _ _ _).trans hm))))
  have h:¬I>J:=by
    have:=of_decide_eq_false h0
    try simp only at this
    omega
  rw [if_neg h]
  obtain ⟨R,hR⟩:∃R,Go.Sort.partLoop (ltI l L) a (I+1) (J - 1) (swp m I J)=R:=⟨_,rfl⟩
  rw [hR]
  have wI:IntKind.i64.wrap (((I:Nat):Int)+Int.ofNat 1)=((I+1:Nat):Int):=by simp only [IntKind.wrap_i64,Int.ofNat_eq_natCast];omega
  have wJ:IntKind.i64.wrap (((J:Nat):Int) - Int.ofNat 1)=((J - 1:Nat):Int):=by simp only [IntKind.wrap_i64,Int.ofNat_eq_natCast];omega
  have hm2:=(swp_sz m I J).trans hm
  refine jB ?_
  refine AW.draws mixed_ok ?_
  refine wH rfl ?_;refine RG.opS rfl (op_ixW (J) numF ((m).toList) (by omega) rfl (tab_ok ty_ok rfl) rfl (tab_ok ty_ok rfl) rfl rfl rfl jX) rfl ?_;refine RG.opS rfl (op_ldW (J) numF (m) (by omega) rfl (tab_ok ty_ok rfl) rfl rfl rfl) rfl ?_;refine wH rfl ?_;refine RG.opS rfl (op_ixW (I) numF ((m).toList) (by omega) rfl (tab_ok ty_ok rfl) rfl (tab_ok ty_ok rfl) rfl rfl rfl jX) rfl ?_;refine RG.opS rfl (op_ldW (I) numF (m) (by omega) rfl (tab_ok ty_ok rfl) rfl rfl rfl) rfl ?_;refine wH rfl ?_;refine RG.opS rfl (op_ixW (I) numF ((m).toList) (by omega) rfl (tab_ok ty_ok rfl) rfl (tab_ok ty_ok rfl) rfl rfl rfl jX) rfl ?_;refine RG.opS rfl (op_stW (I) numF ((m).toList) ((m)[J]!) (by simp only [List.length_set,Array.length_toList];omega) rfl (tab_ok ty_ok rfl) rfl rfl rfl rfl rfl (fun _=>rfl)) rfl ?_;refine wH rfl ?_;refine RG.opS rfl (op_ixW (J) numF (((m).toList.set (I) (m)[J]!)) (by omega) rfl (tab_ok ty_ok rfl) rfl (tab_ok ty_ok rfl) rfl rfl rfl jX) rfl ?_;refine RG.opS rfl (op_stW (J) numF (((m).toList.set (I) (m)[J]!)) ((m)[I]!) (by simp only [List.length_set,Array.length_toList];omega) rfl (tab_ok ty_ok rfl) rfl rfl rfl rfl rfl (fun _=>rfl)) rfl ?_
  refine wH rfl ?_;refine jA ?_
  refine AW.loopL (ι:=(Nat × Nat) × Array (Fin (L+1))) (fun x=>[(0,.row 201 0 0 n),(1,.i .i64 ((a:Nat):Int)),(4,.fn 300 [.own 210 0 0] []),(12,.i .i64 ((x.1.1:Nat):Int)),(13,.i .i64 ((x.1.2:Nat):Int))]) (fun x=>gl q [210,201] (ioB l n (x.2))) (fun x=>(a<x.1.1/\x.1.1<=x.1.2+2/\a<=x.1.2/\x.1.2<n/\x.2.size=n)/\Go.Sort.partLoop (ltI l L) a x.1.1 x.1.2 x.2=R) (fun x=>x.1.2+1 - x.1.1) ((I+1,J - 1),swp m I J) ⟨⟨by show a<I+1;omega,by show I+1<=J - 1+2;omega,by show a<=J - 1;omega,by show J - 1<n;omega,hm2⟩,hR⟩ ⟨Rn.rowTIs rfl rfl rfl (rowFit (hm2)),Rn.is rfl rfl,Rn.fnO rfl rfl rfl,Rn.is (congrArg (AV.i .i64) wI) rfl,Rn.is (congrArg (AV.i .i64) wJ) rfl,trivial⟩ (io_end rfl rfl rfl rfl rfl (by rw [swp_list]) (rowFit (by assumption))) fun x hx=>?_
  clear hR hm2 hm wI wJ
  obtain ⟨⟨i,j⟩,m⟩:=x
  obtain ⟨⟨hi,hij,haj,hj,hm⟩,hG⟩:=hx
  simp only at hi hij haj hj hm hG
  obtain ⟨I,hI⟩:∃I,Go.Sort.scanUp (fun x=>ltI l L x m[a]!) m j i=I:=⟨_,rfl⟩
  obtain ⟨J,hJ⟩:∃J,Go.Sort.scanDown (fun x=>!ltI l L x m[a]!) m I j=J:=⟨_,rfl⟩
  rw [loop_eq hI hJ] at hG
  refine jB ?_
  refine AW.loopL (ι:=Nat) (fun x=>[(0,.row 201 0 0 n),(1,.i .i64 ((a:Nat):Int)),(4,.fn 300 [.own 210 0 0] []),(12,.i .i64 ((x:Nat):Int)),(13,.i .i64 ((j:Nat):Int))]) (fun _=>gl q [210,201] (ioB l n (m))) (fun x=>(i<=x/\x<=j+2)/\Go.Sort.scanUp (fun x=>ltI l L x m[a]!) m j x=I) (fun x=>j+1 - x) (i) ⟨by omega,hI⟩ ⟨Rn.rowIs rfl rfl rfl,Rn.is rfl rfl,Rn.fnO rfl rfl rfl,Rn.is rfl rfl,Rn.is rfl rfl,trivial⟩ (io_end rfl rfl rfl rfl rfl (rfl) (rowFit (by assumption))) fun x hx=>?_
  clear hI
  obtain ⟨hx,hf⟩:=hx
  rw [scanUp_eq] at hf
  refine jB ?_
  refine AW.cutT (ι:=Unit) (fun _=>[(0,.row 201 0 0 n),(1,.i .i64 ((a:Nat):Int)),(4,.fn 300 [.own 210 0 0] []),(12,.i .i64 ((x:Nat):Int)),(13,.i .i64 ((j:Nat):Int)),(120,.b (decide (x<=j) && (ltI l L m[x]! m[a]!)))]) (fun _=>gl q [210,201] (ioB l n (m))) (fun _=>True) ?_ fun _ _=>?_
  · refine AW.draws mixed_ok ?_
    by_cases g1:((x:Nat):Int)<=((j:Nat):Int)
    · refine RG.runO ty_ok 0 [(107,.b true)] 400 rfl jD ?_
      refine wH rfl ?_;refine RG.opS rfl (op_ixW (x) numF ((m).toList) (by omega) rfl (tab_ok ty_ok rfl) rfl (tab_ok ty_ok rfl) rfl rfl rfl jX) rfl ?_;refine RG.opS rfl (op_ldW (x) numF (m) (by omega) rfl (tab_ok ty_ok rfl) rfl rfl rfl) rfl ?_
      refine wH rfl ?_;refine RG.opS rfl (op_ixW (a) numF ((m).toList) (by omega) rfl (tab_ok ty_ok rfl) rfl (tab_ok ty_ok rfl) rfl rfl rfl jX) rfl ?_;refine RG.opS rfl (op_ldW (a) numF (m) (by omega) rfl (tab_ok ty_ok rfl) rfl rfl rfl) rfl ?_
      refine wH rfl ?_
      refine RG.ownK [(210,210),(201,201)] [(210,210),(201,201)] 201 201 rfl (fun q=>m_compare l L hL n (m) (m[x]!) (m[a]!) q (rowFit (by assumption))) rfl rfl rfl rfl rfl rfl rfl rfl rfl rfl rfl rfl rfl ?_
      refine wH rfl ?_;refine jB ?_
      exact ⟨(),trivial,⟨Rn.rowIs rfl rfl rfl,Rn.is rfl rfl,Rn.fnO rfl rfl rfl,Rn.is rfl rfl,Rn.is rfl rfl,Rn.is (congrArg AV.b (by rw [decide_eq_true (show x<=j by omega),Bool.true_and];rfl)) rfl,trivial⟩,io_end rfl rfl rfl rfl rfl (rfl) (rowFit (by assumption))⟩
    · refine RG.runO ty_ok 0 [(107,.b false)] 400 rfl jD ?_
      refine jB ?_
      exact ⟨(),trivial,⟨Rn.rowIs rfl rfl rfl,Rn.is rfl rfl,Rn.fnO rfl rfl rfl,Rn.is rfl rfl,Rn.is rfl rfl,Rn.is (congrArg AV.b (by rw [decide_eq_false (show ¬x<=j by omega),Bool.false_and])) rfl,trivial⟩,io_end rfl rfl rfl rfl rfl (rfl) (rowFit (by assumption))⟩
  cases hb:(decide (x<=j) && (ltI l L m[x]! m[a]!))
  rotate_left
  · rw [hb,cond_true] at hf
    have hle:x<=j:=by
      rw [Bool.and_eq_true,decide_eq_true_eq] at hb
      exact hb.1
    have w9:IntKind.i64.wrap (((x:Nat):Int)+Int.ofNat 1)=((x+1:Nat):Int):=by simp only [IntKind.wrap_i64,Int.ofNat_eq_natCast];omega
    refine AW.cond rfl (fun _=>?_) (fun h1=>by cases h1)
    refine jA ?_
    exact ⟨x+1,⟨⟨by omega,hf⟩,by omega⟩,⟨Rn.rowIs rfl rfl rfl,Rn.is rfl rfl,Rn.fnO rfl rfl rfl,Rn.is (congrArg (AV.i .i64) w9) rfl,Rn.is rfl rfl,trivial⟩,io_end rfl rfl rfl rfl rfl (rfl) (rowFit (by assumption))⟩
  rw [hb,cond_false] at hf
  clear hb
  obtain rfl:I=x:=hf.symm
  refine AW.cond rfl (fun h1=>by cases h1) (fun _=>?_)
  refine jA ?_
  refine AW.exit ?_;refine Eq.mpr (if_pos rfl) ?_;refine jA ?_
  refine AW.loopL (ι:=Nat) (fun x=>[(0,.row 201 0 0 n),(1,.i .i64 ((a:Nat):Int)),(4,.fn 300 [.own 210 0 0] []),(12,.i .i64 ((I:Nat):Int)),(13,.i .i64 ((x:Nat):Int))]) (fun _=>gl q [210,201] (ioB l n (m))) (fun x=>(a<=x/\x<=j)/\Go.Sort.scanDown (fun x=>!ltI l L x m[a]!) m I x=J) (fun x=>x) (j) ⟨by omega,hJ⟩ ⟨Rn.rowIs rfl rfl rfl,Rn.is rfl rfl,Rn.fnO rfl rfl rfl,Rn.is rfl rfl,Rn.is rfl rfl,trivial⟩ (io_end rfl rfl rfl rfl rfl (rfl) (rowFit (by assumption))) fun x hx=>?_
  clear hJ
  obtain ⟨hy,hf⟩:=hx
  rw [scanDown_eq _ _ (by omega)] at hf
  refine jB ?_
  refine AW.cutT (ι:=Unit) (fun _=>[(0,.row 201 0 0 n),(1,.i .i64 ((a:Nat):Int)),(4,.fn 300 [.own 210 0 0] []),(12,.i .i64 ((I:Nat):Int)),(13,.i .i64 ((x:Nat):Int)),(139,.b (decide (I<=x) && (!ltI l L m[x]! m[a]!)))]) (fun _=>gl q [210,201] (ioB l n (m))) (fun _=>True) ?_ fun _ _=>?_
  · refine AW.draws mixed_ok ?_
    by_cases g1:((I:Nat):Int)<=((x:Nat):Int)
    · refine RG.runO ty_ok 0 [(125,.b true)] 400 rfl jD ?_
      refine wH rfl ?_;refine RG.opS rfl (op_ixW (x) numF ((m).toList) (by omega) rfl (tab_ok ty_ok rfl) rfl (tab_ok ty_ok rfl) rfl rfl rfl jX) rfl ?_;refine RG.opS rfl (op_ldW (x) numF (m) (by omega) rfl (tab_ok ty_ok rfl) rfl rfl rfl) rfl ?_
      refine wH rfl ?_;refine RG.opS rfl (op_ixW (a) numF ((m).toList) (by omega) rfl (tab_ok ty_ok rfl) rfl (tab_ok ty_ok rfl) rfl rfl rfl jX) rfl ?_;refine RG.opS rfl (op_ldW (a) numF (m) (by omega) rfl (tab_ok ty_ok rfl) rfl rfl rfl) rfl ?_
      refine wH rfl ?_
      refine RG.ownK [(210,210),(201,201)] [(210,210),(201,201)] 201 201 rfl (fun q=>m_compare l L hL n (m) (m[x]!) (m[a]!) q (rowFit (by assumption))) rfl rfl rfl rfl rfl rfl rfl rfl rfl rfl rfl rfl rfl ?_
      refine wH rfl ?_;refine jB ?_
      exact ⟨(),trivial,⟨Rn.rowIs rfl rfl rfl,Rn.is rfl rfl,Rn.fnO rfl rfl rfl,Rn.is rfl rfl,Rn.is rfl rfl,Rn.is (congrArg AV.b (by rw [decide_eq_true (show I<=x by omega),Bool.true_and];rfl)) rfl,trivial⟩,io_end rfl rfl rfl rfl rfl (rfl) (rowFit (by assumption))⟩
    · refine RG.runO ty_ok 0 [(125,.b false)] 400 rfl jD ?_
      refine jB ?_
      exact ⟨(),trivial,⟨Rn.rowIs rfl rfl rfl,Rn.is rfl rfl,Rn.fnO rfl rfl rfl,Rn.is rfl rfl,Rn.is rfl rfl,Rn.is (congrArg AV.b (by rw [decide_eq_false (show ¬I<=x by omega),Bool.false_and])) rfl,trivial⟩,io_end rfl rfl rfl rfl rfl (rfl) (rowFit (by assumption))⟩
  cases hb:(decide (I<=x) && (!ltI l L m[x]! m[a]!))
  rotate_left
  · rw [hb,cond_true] at hf
    have hle:I<=x:=by
      rw [Bool.and_eq_true,decide_eq_true_eq] at hb
      exact hb.1
    have w9:IntKind.i64.wrap (((x:Nat):Int) - Int.ofNat 1)=((x - 1:Nat):Int):=by simp only [IntKind.wrap_i64,Int.ofNat_eq_natCast];omega
    refine AW.cond rfl (fun _=>?_) (fun h1=>by cases h1)
    refine jA ?_
    exact ⟨x - 1,⟨⟨by omega,hf⟩,by omega⟩,⟨Rn.rowIs rfl rfl rfl,Rn.is rfl rfl,Rn.fnO rfl rfl rfl,Rn.is rfl rfl,Rn.is (congrArg (AV.i .i64) w9) rfl,trivial⟩,io_end rfl rfl rfl rfl rfl (rfl) (rowFit (by assumption))⟩
  rw [hb,cond_false] at hf
  clear hb
  obtain rfl:J=x:=hf.symm
  refine AW.cond rfl (fun h1=>by cases h1) (fun _=>?_)
  refine jA ?_
  refine AW.exit ?_;refine Eq.mpr (if_pos rfl) ?_;refine jA ?_
  refine AW.cond rfl (fun h0=>?_) (fun h0=>?_)
  · have h : I > J := by
      have:=of_decide_eq_true h0
      try simp only at this
      omega
    rw [if_pos h] at hG
    subst hG
    refine jA ?_
    refine AW.exit ?_;refine Eq.mpr (if_neg (by decide)) ?_;refine Eq.mpr (if_pos rfl) ?_;refine jA ?_
    refine wH rfl ?_;refine RG.opS rfl (op_ixW (a) numF ((m).toList) (by omega) rfl (tab_ok ty_ok rfl) rfl (tab_ok ty_ok rfl) rfl rfl rfl jX) rfl ?_;refine RG.opS rfl (op_ldW (a) numF (m) (by omega) rfl (tab_ok ty_ok rfl) rfl rfl rfl) rfl ?_;refine wH rfl ?_;refine RG.opS rfl (op_ixW (J) numF ((m).toList) (by omega) rfl (tab_ok ty_ok rfl) rfl (tab_ok ty_ok rfl) rfl rfl rfl jX) rfl ?_;refine RG.opS rfl (op_ldW (J) numF (m) (by omega) rfl (tab_ok ty_ok rfl) rfl rfl rfl) rfl ?_;refine wH rfl ?_;refine RG.opS rfl (op_ixW (J) numF ((m).toList) (by omega) rfl (tab_ok ty_ok rfl) rfl (tab_ok ty_ok rfl) rfl rfl rfl jX) rfl ?_;refine RG.opS rfl (op_stW (J) numF ((m).toList) ((m)[a]!) (by simp only [List.length_set,Array.length_toList];omega) rfl (tab_ok ty_ok rfl) rfl rfl rfl rfl rfl (fun _=>rfl)) rfl ?_;refine wH rfl ?_;refine RG.opS rfl (op_ixW (a) numF (((m).toList.set (J) (m)[a]!)) (by omega) rfl (tab_ok ty_ok rfl) rfl (tab_ok ty_ok rfl) rfl rfl rfl jX) rfl ?_;refine RG.opS rfl (op_stW (a) numF (((m).toList.set (J) (m)[a]!)) ((m)[J]!) (by simp only [List.length_set,Array.length_toList];omega) rfl (tab_ok ty_ok rfl) rfl rfl rfl rfl rfl (fun _=>rfl)) rfl ?_
    refine wH rfl ?_;refine jA ?_
    exact AW.ret (retM2 rfl (Rm.is rfl rfl) (Rm.is rfl rfl) (io_end rfl rfl rfl rfl rfl (by rw [swp_list]) (rowFit ((swp_sz _ _ _).trans hm))))
  have h:¬I>J:=by
    have:=of_decide_eq_false h0
    try simp only at this
    omega
  rw [if_neg h] at hG
  have wI:IntKind.i64.wrap (((I:Nat):Int)+Int.ofNat 1)=((I+1:Nat):Int):=by simp only [IntKind.wrap_i64,Int.ofNat_eq_natCast];omega
  have wJ:IntKind.i64.wrap (((J:Nat):Int) - Int.ofNat 1)=((J - 1:Nat):Int):=by simp only [IntKind.wrap_i64,Int.ofNat_eq_natCast];omega
  have hm2:=(swp_sz m I J).trans hm
  refine jB ?_
  refine AW.draws mixed_ok ?_
  refine wH rfl ?_;refine RG.opS rfl (op_ixW (J) numF ((m).toList) (by omega) rfl (tab_ok ty_ok rfl) rfl (tab_ok ty_ok rfl) rfl rfl rfl jX) rfl ?_;refine RG.opS rfl (op_ldW (J) numF (m) (by omega) rfl (tab_ok ty_ok rfl) rfl rfl rfl) rfl ?_;refine wH rfl ?_;refine RG.opS rfl (op_ixW (I) numF ((m).toList) (by omega) rfl (tab_ok ty_ok rfl) rfl (tab_ok ty_ok rfl) rfl rfl rfl jX) rfl ?_;refine RG.opS rfl (op_ldW (I) numF (m) (by omega) rfl (tab_ok ty_ok rfl) rfl rfl rfl) rfl ?_;refine wH rfl ?_;refine RG.opS rfl (op_ixW (I) numF ((m).toList) (by omega) rfl (tab_ok ty_ok rfl) rfl (tab_ok ty_ok rfl) rfl rfl rfl jX) rfl ?_;refine RG.opS rfl (op_stW (I) numF ((m).toList) ((m)[J]!) (by simp only [List.length_set,Array.length_toList];omega) rfl (tab_ok ty_ok rfl) rfl rfl rfl rfl rfl (fun _=>rfl)) rfl ?_;refine wH rfl ?_;refine RG.opS rfl (op_ixW (J) numF (((m).toList.set (I) (m)[J]!)) (by omega) rfl (tab_ok ty_ok rfl) rfl (tab_ok ty_ok rfl) rfl rfl rfl jX) rfl ?_;refine RG.opS rfl (op_stW (J) numF (((m).toList.set (I) (m)[J]!)) ((m)[I]!) (by simp only [List.length_set,Array.length_toList];omega) rfl (tab_ok ty_ok rfl) rfl rfl rfl rfl rfl (fun _=>rfl)) rfl ?_
  refine wH rfl ?_;refine jA ?_
  exact ⟨((I+1,J - 1),swp m I J),⟨⟨⟨by show a<I+1;omega,by show I+1<=J - 1+2;omega,by show a<=J - 1;omega,by show J - 1<n;omega,hm2⟩,hG⟩,by show J - 1+1 - (I+1)<j+1 - i;omega⟩,⟨Rn.rowTIs rfl rfl rfl (rowFit (hm2)),Rn.is rfl rfl,Rn.fnO rfl rfl rfl,Rn.is (congrArg (AV.i .i64) wI) rfl,Rn.is (congrArg (AV.i .i64) wJ) rfl,trivial⟩,io_end rfl rfl rfl rfl rfl (by rw [swp_list]) (rowFit (by assumption))⟩
theorem m_partEq (l:List Rl) (L:Nat) (hL:l.length=L+1) (n:Nat) (hl:n<=100000) (d:Array (Fin (L+1))) (hn:d.size=n) (a b pivot:Nat) (ha:a<=pivot) (hp:pivot<b) (hb:b<=n) (q:Nat->Option (Nat × Nat)):MDoes Tryz.prog 316 [.row 201 0 0 n,.i .i64 ((a:Nat):Int),.i .i64 ((b:Nat):Int),.i .i64 ((pivot:Nat):Int),.fn 300 [.own 210 0 0] []] (gl q [210,201] (ioB l n (d))) (.i .i64 (((Go.Sort.partitionEqual (ltI l L) d a b pivot).1:Nat):Int)) (gl q [210,201] (ioB l n ((Go.Sort.partitionEqual (ltI l L) d a b pivot).2))):=by
  refine MDoes.of_body Tryz.func316 rfl (by kernel_rfl) rfl rfl ?_
  have hm:(swp d a pivot).size=n:=(swp_sz _ _ _).trans hn
  obtain ⟨R,hR⟩:∃R,Go.Sort.partitionEqual (ltI l L) d a b pivot=R:=⟨_,rfl⟩
  rw [hR]
  rw [Go.Sort.partitionEqual] at hR
  have w1:IntKind.i64.wrap (((a:Nat):Int)+Int.ofNat 1)=((a+1:Nat):Int):=by simp only [IntKind.wrap_i64,Int.ofNat_eq_natCast];omega
  have w2:IntKind.i64.wrap (((b:Nat):Int) - Int.ofNat 1)=((b - 1:Nat):Int):=by simp only [IntKind.wrap_i64,Int.ofNat_eq_natCast];omega
  refine jB ?_
  refine AW.text ?_
  refine wH rfl ?_;refine jB ?_
  refine AW.draws mixed_ok ?_
  refine wH rfl ?_;refine RG.opS rfl (op_ixW (pivot) numF ((d).toList) (by omega) rfl (tab_ok ty_ok rfl) rfl (tab_ok ty_ok rfl) rfl rfl rfl jX) rfl ?_;refine RG.opS rfl (op_ldW (pivot) numF (d) (by omega) rfl (tab_ok ty_ok rfl) rfl rfl rfl) rfl ?_;refine wH rfl ?_;refine RG.opS rfl (op_ixW (a) numF ((d).toList) (by omega) rfl (tab_ok ty_ok rfl) rfl (tab_ok ty_ok rfl) rfl rfl rfl jX) rfl ?_;refine RG.opS rfl (op_ldW (a) numF (d) (by omega) rfl (tab_ok ty_ok rfl) rfl rfl rfl) rfl ?_;refine wH rfl ?_;refine RG.opS rfl (op_ixW (a) numF ((d).toList) (by omega) rfl (tab_ok ty_ok rfl) rfl (tab_ok ty_ok rfl) rfl rfl rfl jX) rfl ?_;refine RG.opS rfl (op_stW (a) numF ((d).toList) ((d)[pivot]!) (by simp only [List.length_set,Array.length_toList];omega) rfl (tab_ok ty_ok rfl) rfl rfl rfl rfl rfl (fun _=>rfl)) rfl ?_;refine wH rfl ?_;refine RG.opS rfl (op_ixW (pivot) numF (((d).toList.set (a) (d)[pivot]!)) (by omega) rfl (tab_ok ty_ok rfl) rfl (tab_ok ty_ok rfl) rfl rfl rfl jX) rfl ?_;refine RG.opS rfl (op_stW (pivot) numF (((d).toList.set (a) (d)[pivot]!)) ((d)[a]!) (by simp only [List.length_set,Array.length_toList];omega) rfl (tab_ok ty_ok rfl) rfl rfl rfl rfl rfl (fun _=>rfl)) rfl ?_
  rw [<- swp_list]
  refine wH rfl ?_;refine jA ?_
  refine AW.loopL (ι:=(Nat × Nat) × Array (Fin (L+1))) (fun x=>[(0,.row 201 0 0 n),(1,.i .i64 ((a:Nat):Int)),(4,.fn 300 [.own 210 0 0] []),(11,.i .i64 ((x.1.1:Nat):Int)),(12,.i .i64 ((x.1.2:Nat):Int))]) (fun x=>gl q [210,201] (ioB l n (x.2))) (fun x=>(a<x.1.1/\x.1.1<=x.1.2+2/\a<=x.1.2/\x.1.2<n/\x.2.size=n)/\Go.Sort.partEqLoop (ltI l L) a x.1.1 x.1.2 x.2=R) (fun x=>x.1.2+1 - x.1.1) ((a+1,b - 1),swp d a pivot) ⟨⟨by show a<a+1;omega,by show a+1<=b - 1+2;omega,by show a<=b - 1;omega,by show b - 1<n;omega,hm⟩,hR⟩ ⟨Rn.rowIs rfl rfl rfl,Rn.is rfl rfl,Rn.fnO rfl rfl rfl,Rn.is (congrArg (AV.i .i64) w1) rfl,Rn.is (congrArg (AV.i .i64) w2) rfl,trivial⟩ (io_end rfl rfl rfl rfl rfl (rfl) (rowFit (by assumption))) fun x hx=>?_
  clear hR hm hn w1 w2
  obtain ⟨⟨i,j⟩,m⟩:=x
  obtain ⟨⟨hi,hij,haj,hj,hm⟩,hG⟩:=hx
  simp only at hi hij haj hj hm hG
  obtain ⟨I,hI⟩:∃I,Go.Sort.scanUp (fun x=>!ltI l L m[a]! x) m j i=I:=⟨_,rfl⟩
  obtain ⟨J,hJ⟩:∃J,Go.Sort.scanDown (fun x=>ltI l L m[a]! x) m I j=J:=⟨_,rfl⟩
  rw [eqLoop_eq hI hJ] at hG
  refine jB ?_
  refine AW.loopL (ι:=Nat) (fun x=>[(0,.row 201 0 0 n),(1,.i .i64 ((a:Nat):Int)),(4,.fn 300 [.own 210 0 0] []),(11,.i .i64 ((x:Nat):Int)),(12,.i .i64 ((j:Nat):Int))]) (fun _=>gl q [210,201] (ioB l n (m))) (fun x=>(i<=x/\x<=j+2)/\Go.Sort.scanUp (fun x=>!ltI l L m[a]! x) m j x=I) (fun x=>j+1 - x) (i) ⟨by omega,hI⟩ ⟨Rn.rowIs rfl rfl rfl,Rn.is rfl rfl,Rn.fnO rfl rfl rfl,Rn.is rfl rfl,Rn.is rfl rfl,trivial⟩ (io_end rfl rfl rfl rfl rfl (rfl) (rowFit (by assumption))) fun x hx=>?_
  clear hI
  obtain ⟨hx,hf⟩:=hx
  rw [scanUp_eq] at hf
  refine jB ?_
  refine AW.cutT (ι:=Unit) (fun _=>[(0,.row 201 0 0 n),(1,.i .i64 ((a:Nat):Int)),(4,.fn 300 [.own 210 0 0] []),(11,.i .i64 ((x:Nat):Int)),(12,.i .i64 ((j:Nat):Int)),(47,.b (decide (x<=j) && (!ltI l L m[a]! m[x]!)))]) (fun _=>gl q [210,201] (ioB l n (m))) (fun _=>True) ?_ fun _ _=>?_
  · refine AW.draws mixed_ok ?_
    by_cases g1:((x:Nat):Int)<=((j:Nat):Int)
    · refine RG.runO ty_ok 0 [(33,.b true)] 400 rfl jD ?_
      refine wH rfl ?_;refine RG.opS rfl (op_ixW (a) numF ((m).toList) (by omega) rfl (tab_ok ty_ok rfl) rfl (tab_ok ty_ok rfl) rfl rfl rfl jX) rfl ?_;refine RG.opS rfl (op_ldW (a) numF (m) (by omega) rfl (tab_ok ty_ok rfl) rfl rfl rfl) rfl ?_
      refine wH rfl ?_;refine RG.opS rfl (op_ixW (x) numF ((m).toList) (by omega) rfl (tab_ok ty_ok rfl) rfl (tab_ok ty_ok rfl) rfl rfl rfl jX) rfl ?_;refine RG.opS rfl (op_ldW (x) numF (m) (by omega) rfl (tab_ok ty_ok rfl) rfl rfl rfl) rfl ?_
      refine wH rfl ?_
      refine RG.ownK [(210,210),(201,201)] [(210,210),(201,201)] 201 201 rfl (fun q=>m_compare l L hL n (m) (m[a]!) (m[x]!) q (rowFit (by assumption))) rfl rfl rfl rfl rfl rfl rfl rfl rfl rfl rfl rfl rfl ?_
      refine wH rfl ?_;refine jB ?_
      exact ⟨(),trivial,⟨Rn.rowIs rfl rfl rfl,Rn.is rfl rfl,Rn.fnO rfl rfl rfl,Rn.is rfl rfl,Rn.is rfl rfl,Rn.is (congrArg AV.b (by rw [decide_eq_true (show x<=j by omega),Bool.true_and];rfl)) rfl,trivial⟩,io_end rfl rfl rfl rfl rfl (rfl) (rowFit (by assumption))⟩
    · refine RG.runO ty_ok 0 [(33,.b false)] 400 rfl jD ?_
      refine jB ?_
      exact ⟨(),trivial,⟨Rn.rowIs rfl rfl rfl,Rn.is rfl rfl,Rn.fnO rfl rfl rfl,Rn.is rfl rfl,Rn.is rfl rfl,Rn.is (congrArg AV.b (by rw [decide_eq_false (show ¬x<=j by omega),Bool.false_and])) rfl,trivial⟩,io_end rfl rfl rfl rfl rfl (rfl) (rowFit (by assumption))⟩
  cases hb:(decide (x<=j) && (!ltI l L m[a]! m[x]!))
  rotate_left
  · rw [hb,cond_true] at hf
    have hle:x<=j:=by
      rw [Bool.and_eq_true,decide_eq_true_eq] at hb
      exact hb.1
    have w9:IntKind.i64.wrap (((x:Nat):Int)+Int.ofNat 1)=((x+1:Nat):Int):=by simp only [IntKind.wrap_i64,Int.ofNat_eq_natCast];omega
    refine AW.cond rfl (fun _=>?_) (fun h1=>by cases h1)
    refine jA ?_
    exact ⟨x+1,⟨⟨by omega,hf⟩,by omega⟩,⟨Rn.rowIs rfl rfl rfl,Rn.is rfl rfl,Rn.fnO rfl rfl rfl,Rn.is (congrArg (AV.i .i64) w9) rfl,Rn.is rfl rfl,trivial⟩,io_end rfl rfl rfl rfl rfl (rfl) (rowFit (by assumption))⟩
  rw [hb,cond_false] at hf
  clear hb
  obtain rfl:I=x:=hf.symm
  refine AW.cond rfl (fun h1=>by cases h1) (fun _=>?_)
  refine jA ?_
  refine AW.exit ?_;refine Eq.mpr (if_pos rfl) ?_;refine jA ?_
  refine AW.loopL (ι:=Nat) (fun x=>[(0,.row 201 0 0 n),(1,.i .i64 ((a:Nat):Int)),(4,.fn 300 [.own 210 0 0] []),(11,.i .i64 ((I:Nat):Int)),(12,.i .i64 ((x:Nat):Int))]) (fun _=>gl q [210,201] (ioB l n (m))) (fun x=>(a<=x/\x<=j)/\Go.Sort.scanDown (fun x=>ltI l L m[a]! x) m I x=J) (fun x=>x) (j) ⟨by omega,hJ⟩ ⟨Rn.rowIs rfl rfl rfl,Rn.is rfl rfl,Rn.fnO rfl rfl rfl,Rn.is rfl rfl,Rn.is rfl rfl,trivial⟩ (io_end rfl rfl rfl rfl rfl (rfl) (rowFit (by assumption))) fun x hx=>?_
  clear hJ
  obtain ⟨hy,hf⟩:=hx
  rw [scanDown_eq _ _ (by omega)] at hf
  refine jB ?_
  refine AW.cutT (ι:=Unit) (fun _=>[(0,.row 201 0 0 n),(1,.i .i64 ((a:Nat):Int)),(4,.fn 300 [.own 210 0 0] []),(11,.i .i64 ((I:Nat):Int)),(12,.i .i64 ((x:Nat):Int)),(65,.b (decide (I<=x) && (ltI l L m[a]! m[x]!)))]) (fun _=>gl q [210,201] (ioB l n (m))) (fun _=>True) ?_ fun _ _=>?_
  · refine AW.draws mixed_ok ?_
    by_cases g1:((I:Nat):Int)<=((x:Nat):Int)
    · refine RG.runO ty_ok 0 [(52,.b true)] 400 rfl jD ?_
      refine wH rfl ?_;refine RG.opS rfl (op_ixW (a) numF ((m).toList) (by omega) rfl (tab_ok ty_ok rfl) rfl (tab_ok ty_ok rfl) rfl rfl rfl jX) rfl ?_;refine RG.opS rfl (op_ldW (a) numF (m) (by omega) rfl (tab_ok ty_ok rfl) rfl rfl rfl) rfl ?_
      refine wH rfl ?_;refine RG.opS rfl (op_ixW (x) numF ((m).toList) (by omega) rfl (tab_ok ty_ok rfl) rfl (tab_ok ty_ok rfl) rfl rfl rfl jX) rfl ?_;refine RG.opS rfl (op_ldW (x) numF (m) (by omega) rfl (tab_ok ty_ok rfl) rfl rfl rfl) rfl ?_
      refine wH rfl ?_
      refine RG.ownK [(210,210),(201,201)] [(210,210),(201,201)] 201 201 rfl (fun q=>m_compare l L hL n (m) (m[a]!) (m[x]!) q (rowFit (by assumption))) rfl rfl rfl rfl rfl rfl rfl rfl rfl rfl rfl rfl rfl ?_
      refine wH rfl ?_;refine jB ?_
      exact ⟨(),trivial,⟨Rn.rowIs rfl rfl rfl,Rn.is rfl rfl,Rn.fnO rfl rfl rfl,Rn.is rfl rfl,Rn.is rfl rfl,Rn.is (congrArg AV.b (by rw [decide_eq_true (show I<=x by omega),Bool.true_and];rfl)) rfl,trivial⟩,io_end rfl rfl rfl rfl rfl (rfl) (rowFit (by assumption))⟩
    · refine RG.runO ty_ok 0 [(52,.b false)] 400 rfl jD ?_
      refine jB ?_
      exact ⟨(),trivial,⟨Rn.rowIs rfl rfl rfl,Rn.is rfl rfl,Rn.fnO rfl rfl rfl,Rn.is rfl rfl,Rn.is rfl rfl,Rn.is (congrArg AV.b (by rw [decide_eq_false (show ¬I<=x by omega),Bool.false_and])) rfl,trivial⟩,io_end rfl rfl rfl rfl rfl (rfl) (rowFit (by assumption))⟩
  cases hb:(decide (I<=x) && (ltI l L m[a]! m[x]!))
  rotate_left
  · rw [hb,cond_true] at hf
    have hle:I<=x:=by
      rw [Bool.and_eq_true,decide_eq_true_eq] at hb
      exact hb.1
    have w9:IntKind.i64.wrap (((x:Nat):Int) - Int.ofNat 1)=((x - 1:Nat):Int):=by simp only [IntKind.wrap_i64,Int.ofNat_eq_natCast];omega
    refine AW.cond rfl (fun _=>?_) (fun h1=>by cases h1)
    refine jA ?_
    exact ⟨x - 1,⟨⟨by omega,hf⟩,by omega⟩,⟨Rn.rowIs rfl rfl rfl,Rn.is rfl rfl,Rn.fnO rfl rfl rfl,Rn.is rfl rfl,Rn.is (congrArg (AV.i .i64) w9) rfl,trivial⟩,io_end rfl rfl rfl rfl rfl (rfl) (rowFit (by assumption))⟩
  rw [hb,cond_false] at hf
  clear hb
  obtain rfl:J=x:=hf.symm
  refine AW.cond rfl (fun h1=>by cases h1) (fun _=>?_)
  refine jA ?_
  refine AW.exit ?_;refine Eq.mpr (if_pos rfl) ?_;refine jA ?_
  refine AW.cond rfl (fun h0=>?_) (fun h0=>?_)
  · have h : I > J := by
      have:=of_decide_eq_true h0
      try simp only at this
      omega
    rw [if_pos h] at hG
    subst hG
    refine jA ?_
    refine AW.exit ?_;refine Eq.mpr (if_neg (by decide)) ?_;refine Eq.mpr (if_pos rfl) ?_;refine jA ?_
    exact AW.ret (retM1 rfl (Rm.is rfl rfl) (io_end rfl rfl rfl rfl rfl (rfl) (rowFit (by assumption))))
  have h:¬I>J:=by
    have:=of_decide_eq_false h0
    try simp only at this
    omega
  rw [if_neg h] at hG
  have wI:IntKind.i64.wrap (((I:Nat):Int)+Int.ofNat 1)=((I+1:Nat):Int):=by simp only [IntKind.wrap_i64,Int.ofNat_eq_natCast];omega
  have wJ:IntKind.i64.wrap (((J:Nat):Int) - Int.ofNat 1)=((J - 1:Nat):Int):=by simp only [IntKind.wrap_i64,Int.ofNat_eq_natCast];omega
  have hm2:=(swp_sz m I J).trans hm
  refine jB ?_
  refine AW.draws mixed_ok ?_
  refine wH rfl ?_;refine RG.opS rfl (op_ixW (J) numF ((m).toList) (by omega) rfl (tab_ok ty_ok rfl) rfl (tab_ok ty_ok rfl) rfl rfl rfl jX) rfl ?_;refine RG.opS rfl (op_ldW (J) numF (m) (by omega) rfl (tab_ok ty_ok rfl) rfl rfl rfl) rfl ?_;refine wH rfl ?_;refine RG.opS rfl (op_ixW (I) numF ((m).toList) (by omega) rfl (tab_ok ty_ok rfl) rfl (tab_ok ty_ok rfl) rfl rfl rfl jX) rfl ?_;refine RG.opS rfl (op_ldW (I) numF (m) (by omega) rfl (tab_ok ty_ok rfl) rfl rfl rfl) rfl ?_;refine wH rfl ?_;refine RG.opS rfl (op_ixW (I) numF ((m).toList) (by omega) rfl (tab_ok ty_ok rfl) rfl (tab_ok ty_ok rfl) rfl rfl rfl jX) rfl ?_;refine RG.opS rfl (op_stW (I) numF ((m).toList) ((m)[J]!) (by simp only [List.length_set,Array.length_toList];omega) rfl (tab_ok ty_ok rfl) rfl rfl rfl rfl rfl (fun _=>rfl)) rfl ?_;refine wH rfl ?_;refine RG.opS rfl (op_ixW (J) numF (((m).toList.set (I) (m)[J]!)) (by omega) rfl (tab_ok ty_ok rfl) rfl (tab_ok ty_ok rfl) rfl rfl rfl jX) rfl ?_;refine RG.opS rfl (op_stW (J) numF (((m).toList.set (I) (m)[J]!)) ((m)[I]!) (by simp only [List.length_set,Array.length_toList];omega) rfl (tab_ok ty_ok rfl) rfl rfl rfl rfl rfl (fun _=>rfl)) rfl ?_
  refine wH rfl ?_;refine jA ?_
  exact ⟨((I+1,J - 1),swp m I J),⟨⟨⟨by show a<I+1;omega,by show I+1<=J - 1+2;omega,by show a<=J - 1;omega,by show J - 1<n;omega,hm2⟩,hG⟩,by show J - 1+1 - (I+1)<j+1 - i;omega⟩,⟨Rn.rowTIs rfl rfl rfl (rowFit (hm2)),Rn.is rfl rfl,Rn.fnO rfl rfl rfl,Rn.is (congrArg (AV.i .i64) wI) rfl,Rn.is (congrArg (AV.i .i64) wJ) rfl,trivial⟩,io_end rfl rfl rfl rfl rfl (by rw [swp_list]) (rowFit (by assumption))⟩
end Go.Proofs.YtoaibdbehlcnfaaGreat.Sm
end
section
namespace Go.Proofs.YtoaibdbehlcnfaaGreat.Sm
open Go.RowKit
open Go.Sort (swp)
theorem AW.cutB {P:Program} {N:Nat} {Q:Exit->St->Prop} {s:St} {x y:Code} {id:Nat} {ι:Type} (T:ι->List (Nat × AV)) (B:ι->List (Nat × SB)) (J:ι->Prop) (h1:AW P N x (thenA (fun s'=>∃i,J i/\WkT s' (lkB (B i)) (T i)/\WkB s' (lkB (B i)) (B i)) (inBlkA id (thenA (AW P N y Q) Q))) s)
  (h2:∀i,J i->AW P N y Q (stL (T i) (B i))):AW P N x (inBlkA id (thenA (AW P N y Q) Q)) s :=
 h1.mono fun e s' hq=>by
  cases e with
  | normal =>
   obtain ⟨i,hJ,ht,hB⟩:=hq
   exact AW.only _ _ ht hB (h2 i hJ)
  | _=>exact hq
section
variable {α : Type} [Inhabited α] {lt : α -> α -> Bool}
theorem scanSorted_eq (d:Array α) (b i:Nat):Go.Sort.scanSorted lt d b i=bif (decide (i<b) && !lt d[i]! d[i - 1]!) then Go.Sort.scanSorted lt d b (i+1) else i:=by
 rw [Go.Sort.scanSorted]
 cases (decide (i<b) && !lt d[i]! d[i - 1]!)
 ·rw [if_neg (by simp)];rfl
 ·rw [if_pos rfl];rfl
theorem shiftDown_sz:∀(j:Nat) (d:Array α),(Go.Sort.shiftDown lt j d).size=d.size
 | 0,d=>rfl
 | j+1,d=>by
  rw [Go.Sort.shiftDown]
  split
  ·rfl
  ·rw [shiftDown_sz j,swp_sz]
theorem shiftUp_sz (b:Nat):∀(f j:Nat) (d:Array α),b - j<=f->(Go.Sort.shiftUp lt b j d).size=d.size
 | 0,j,d,hf=>by rw [Go.Sort.shiftUp,if_neg (by omega)]
 | f+1,j,d,hf=>by
  rw [Go.Sort.shiftUp]
  split
  ·split
   ·rfl
   ·rw [shiftUp_sz b f _ _ (by omega),swp_sz]
  ·rfl
def pi1 (lt:α->α->Bool) (a i:Nat) (d:Array α):Array α:=bif decide (i - a>=2) then Go.Sort.shiftDown lt (i - 1) d else d
def pi2 (lt:α->α->Bool) (b i:Nat) (d:Array α):Array α:=bif decide (b - i>=2) then Go.Sort.shiftUp lt b (i+1) d else d
theorem pi1_sz {a i:Nat} {d:Array α}:(pi1 lt a i d).size=d.size:=by
 rw [pi1]
 cases decide (i - a>=2)
 ·rfl
 ·exact shiftDown_sz _ _
theorem pi2_sz {b i:Nat} {d:Array α}:(pi2 lt b i d).size=d.size:=by
 rw [pi2]
 cases decide (b - i>=2)
 ·rfl
 ·exact shiftUp_sz _ _ _ _ (Nat.le_refl _)
theorem pi_eq {a b s i I:Nat} {d:Array α} (hI:Go.Sort.scanSorted lt d b i=I):Go.Sort.partialIns lt a b (s+1) i d=if I=b then (d,true) else if b - a<50 then (d,false) else Go.Sort.partialIns lt a b s I (pi2 lt b I (pi1 lt a I (swp d I (I - 1)))):=by
 subst hI
 rw [Go.Sort.partialIns]
 simp only [pi1,pi2,Bool.cond_decide]
end
theorem m_pins (l:List Rl) (L:Nat) (hL:l.length=L+1) (n:Nat) (hl:n<=100000) (d:Array (Fin (L+1))) (hn:d.size=n) (a b:Nat) (ha:a<b) (hb:b<=n) (q:Nat->Option (Nat × Nat)):MDoes Tryz.prog 315 [.row 201 0 0 n,.i .i64 ((a:Nat):Int),.i .i64 ((b:Nat):Int),.fn 300 [.own 210 0 0] []] (gl q [210,201] (ioB l n (d))) (.b (Go.Sort.partialInsertionSort (ltI l L) d a b).2) (gl q [210,201] (ioB l n ((Go.Sort.partialInsertionSort (ltI l L) d a b).1))):=by
  refine MDoes.of_body Tryz.func315 rfl (by kernel_rfl) rfl rfl ?_
  obtain ⟨R,hR⟩:∃R,Go.Sort.partialInsertionSort (ltI l L) d a b=R:=⟨_,rfl⟩
  rw [hR]
  rw [Go.Sort.partialInsertionSort] at hR
  have w1:IntKind.i64.wrap (((a:Nat):Int)+Int.ofNat 1)=((a+1:Nat):Int):=by simp only [IntKind.wrap_i64,Int.ofNat_eq_natCast];omega
  refine jA ?_
  refine AW.loopL (ι:=(Nat × Nat) × Array (Fin (L+1))) (fun x=>[(0,.row 201 0 0 n),(1,.i .i64 ((a:Nat):Int)),(2,.i .i64 ((b:Nat):Int)),(3,.fn 300 [.own 210 0 0] []),(9,.i .i64 ((x.1.1:Nat):Int)),(10,.i .i64 ((x.1.2:Nat):Int))]) (fun x=>gl q [210,201] (ioB l n (x.2))) (fun x=>(a<x.1.1/\x.1.1<=b/\x.1.2<=5/\x.2.size=n)/\Go.Sort.partialIns (ltI l L) a b (5 - x.1.2) x.1.1 x.2=R) (fun x=>5 - x.1.2) ((a+1,0),d) ⟨⟨by show a<a+1;omega,by show a+1<=b;omega,by show 0<=5;omega,hn⟩,hR⟩ ⟨Rn.rowIs rfl rfl rfl,Rn.is rfl rfl,Rn.is rfl rfl,Rn.fnO rfl rfl rfl,Rn.is (congrArg (AV.i .i64) w1) rfl,Rn.is rfl rfl,trivial⟩ (io_end rfl rfl rfl rfl rfl (rfl) (rowFit (by assumption))) fun x hx=>?_
  clear hR hn w1
  obtain ⟨⟨i,st⟩,m⟩:=x
  obtain ⟨⟨hi,hib,hst,hm⟩,hG⟩:=hx
  simp only at hi hib hst hm hG
  refine jA ?_
  refine AW.cond rfl (fun h0=>?_) (fun h0=>?_)
  rotate_left
  · have h : st = 5 := by
      have:=of_decide_eq_false h0
      simp only [Int.ofNat_eq_natCast] at this
      omega
    subst h
    have hG:(m,false)=R:=hG
    subst hG
    refine jA ?_
    refine AW.exit ?_;refine Eq.mpr (if_pos rfl) ?_;refine jA ?_
    exact AW.ret (retM1 rfl (Rm.is rfl rfl) (io_end rfl rfl rfl rfl rfl (rfl) (rowFit (by assumption))))
  have h:st<5:=by
    have:=of_decide_eq_true h0
    simp only [Int.ofNat_eq_natCast] at this
    omega
  obtain ⟨I,hI⟩:∃I,Go.Sort.scanSorted (ltI l L) m b i=I:=⟨_,rfl⟩
  rw [show 5 - st=(5 - (st+1))+1 by omega,pi_eq hI] at hG
  refine jB ?_
  refine AW.loopL (ι:=Nat) (fun x=>[(0,.row 201 0 0 n),(1,.i .i64 ((a:Nat):Int)),(2,.i .i64 ((b:Nat):Int)),(3,.fn 300 [.own 210 0 0] []),(9,.i .i64 ((x:Nat):Int)),(10,.i .i64 ((st:Nat):Int))]) (fun _=>gl q [210,201] (ioB l n (m))) (fun x=>(i<=x/\x<=b)/\Go.Sort.scanSorted (ltI l L) m b x=I) (fun x=>b - x) i ⟨by omega,hI⟩ ⟨Rn.rowIs rfl rfl rfl,Rn.is rfl rfl,Rn.is rfl rfl,Rn.fnO rfl rfl rfl,Rn.is rfl rfl,Rn.is rfl rfl,trivial⟩ (io_end rfl rfl rfl rfl rfl (rfl) (rowFit (by assumption))) fun x hx=>?_
  clear hI
  obtain ⟨hx,hf⟩:=hx
  rw [scanSorted_eq] at hf
  refine jB ?_
  refine AW.cutT (ι:=Unit) (fun _=>[(0,.row 201 0 0 n),(1,.i .i64 ((a:Nat):Int)),(2,.i .i64 ((b:Nat):Int)),(3,.fn 300 [.own 210 0 0] []),(9,.i .i64 ((x:Nat):Int)),(10,.i .i64 ((st:Nat):Int)),(36,.b (decide (x<b) && (!ltI l L m[x]! m[x - 1]!)))]) (fun _=>gl q [210,201] (ioB l n (m))) (fun _=>True) ?_ fun _ _=>?_
  · refine AW.draws mixed_ok ?_
    by_cases g1:((x:Nat):Int)<((b:Nat):Int)
    · refine RG.runO ty_ok 0 [(21,.b true)] 400 rfl jD ?_
      refine wH rfl ?_;refine RG.opS rfl (op_ixW (x) numF ((m).toList) (by omega) rfl (tab_ok ty_ok rfl) rfl (tab_ok ty_ok rfl) rfl rfl rfl jX) rfl ?_;refine RG.opS rfl (op_ldW (x) numF (m) (by omega) rfl (tab_ok ty_ok rfl) rfl rfl rfl) rfl ?_
      refine wH rfl ?_;refine RG.opS rfl (op_ixW (x - 1) numF ((m).toList) (by omega) rfl (tab_ok ty_ok rfl) rfl (tab_ok ty_ok rfl) rfl rfl rfl jX) rfl ?_;refine RG.opS rfl (op_ldW (x - 1) numF (m) (by omega) rfl (tab_ok ty_ok rfl) rfl rfl rfl) rfl ?_
      refine wH rfl ?_
      refine RG.ownK [(210,210),(201,201)] [(210,210),(201,201)] 201 201 rfl (fun q=>m_compare l L hL n (m) (m[x]!) (m[x - 1]!) q (rowFit (by assumption))) rfl rfl rfl rfl rfl rfl rfl rfl rfl rfl rfl rfl rfl ?_
      refine wH rfl ?_;refine jB ?_
      exact ⟨(),trivial,⟨Rn.rowIs rfl rfl rfl,Rn.is rfl rfl,Rn.is rfl rfl,Rn.fnO rfl rfl rfl,Rn.is rfl rfl,Rn.is rfl rfl,Rn.is (congrArg AV.b (by rw [decide_eq_true (show x<b by omega),Bool.true_and];rfl)) rfl,trivial⟩,io_end rfl rfl rfl rfl rfl (rfl) (rowFit (by assumption))⟩
    · refine RG.runO ty_ok 0 [(21,.b false)] 400 rfl jD ?_
      refine jB ?_
      exact ⟨(),trivial,⟨Rn.rowIs rfl rfl rfl,Rn.is rfl rfl,Rn.is rfl rfl,Rn.fnO rfl rfl rfl,Rn.is rfl rfl,Rn.is rfl rfl,Rn.is (congrArg AV.b (by rw [decide_eq_false (show ¬x<b by omega),Bool.false_and])) rfl,trivial⟩,io_end rfl rfl rfl rfl rfl (rfl) (rowFit (by assumption))⟩
  cases hcb:(decide (x<b) && (!ltI l L m[x]! m[x - 1]!))
  rotate_left
  · rw [hcb,cond_true] at hf
    have hle:x<b:=by
      rw [Bool.and_eq_true,decide_eq_true_eq] at hcb
      exact hcb.1
    have w9:IntKind.i64.wrap (((x:Nat):Int)+Int.ofNat 1)=((x+1:Nat):Int):=by simp only [IntKind.wrap_i64,Int.ofNat_eq_natCast];omega
    refine AW.cond rfl (fun _=>?_) (fun h1=>by cases h1)
    refine jA ?_
    exact ⟨x+1,⟨⟨by omega,hf⟩,by omega⟩,⟨Rn.rowIs rfl rfl rfl,Rn.is rfl rfl,Rn.is rfl rfl,Rn.fnO rfl rfl rfl,Rn.is (congrArg (AV.i .i64) w9) rfl,Rn.is rfl rfl,trivial⟩,io_end rfl rfl rfl rfl rfl (rfl) (rowFit (by assumption))⟩
  rw [hcb,cond_false] at hf
  clear hcb
  obtain rfl:I=x:=hf.symm
  refine AW.cond rfl (fun h1=>by cases h1) (fun _=>?_)
  refine jA ?_
  refine AW.exit ?_;refine Eq.mpr (if_pos rfl) ?_;refine jA ?_
  refine AW.cond rfl (fun h1=>?_) (fun h1=>?_)
  · have k : I = b := by
      have:=of_decide_eq_true h1
      omega
    rw [if_pos k] at hG
    subst hG
    refine jA ?_
    exact AW.ret (retM1 rfl (Rm.is rfl rfl) (io_end rfl rfl rfl rfl rfl (rfl) (rowFit (by assumption))))
  have k:¬I=b:=by
    have:=of_decide_eq_false h1
    omega
  rw [if_neg k] at hG
  have wl:IntKind.i64.wrap (((b:Nat):Int) - ((a:Nat):Int))=((b - a:Nat):Int):=by rw [IntKind.wrap_i64];omega
  refine jB ?_
  refine AW.text ?_
  refine RG.runO ty_ok 0 [(44,.i .i64 ((b - a:Nat):Int))] 400 rfl jD ?_
  refine jB ?_
  refine AW.cond rfl (fun h2=>?_) (fun h2=>?_)
  · have k2 : b - a < 50 := by
      have:=of_decide_eq_true h2
      simp only [Int.ofNat_eq_natCast] at this
      omega
    rw [if_pos k2] at hG
    subst hG
    refine jA ?_
    exact AW.ret (retM1 rfl (Rm.is rfl rfl) (io_end rfl rfl rfl rfl rfl (rfl) (rowFit (by assumption))))
  have k2:¬b - a<50:=by
    have:=of_decide_eq_false h2
    simp only [Int.ofNat_eq_natCast] at this
    omega
  rw [if_neg k2] at hG
  refine jB ?_
  refine AW.draws mixed_ok ?_
  refine wH rfl ?_;refine RG.opS rfl (op_ixW (I - 1) numF ((m).toList) (by omega) rfl (tab_ok ty_ok rfl) rfl (tab_ok ty_ok rfl) rfl rfl rfl jX) rfl ?_;refine RG.opS rfl (op_ldW (I - 1) numF (m) (by omega) rfl (tab_ok ty_ok rfl) rfl rfl rfl) rfl ?_;refine wH rfl ?_;refine RG.opS rfl (op_ixW (I) numF ((m).toList) (by omega) rfl (tab_ok ty_ok rfl) rfl (tab_ok ty_ok rfl) rfl rfl rfl jX) rfl ?_;refine RG.opS rfl (op_ldW (I) numF (m) (by omega) rfl (tab_ok ty_ok rfl) rfl rfl rfl) rfl ?_;refine wH rfl ?_;refine RG.opS rfl (op_ixW (I) numF ((m).toList) (by omega) rfl (tab_ok ty_ok rfl) rfl (tab_ok ty_ok rfl) rfl rfl rfl jX) rfl ?_;refine RG.opS rfl (op_stW (I) numF ((m).toList) ((m)[I - 1]!) (by simp only [List.length_set,Array.length_toList];omega) rfl (tab_ok ty_ok rfl) rfl rfl rfl rfl rfl (fun _=>rfl)) rfl ?_;refine wH rfl ?_;refine RG.opS rfl (op_ixW (I - 1) numF (((m).toList.set (I) (m)[I - 1]!)) (by omega) rfl (tab_ok ty_ok rfl) rfl (tab_ok ty_ok rfl) rfl rfl rfl jX) rfl ?_;refine RG.opS rfl (op_stW (I - 1) numF (((m).toList.set (I) (m)[I - 1]!)) ((m)[I]!) (by simp only [List.length_set,Array.length_toList];omega) rfl (tab_ok ty_ok rfl) rfl rfl rfl rfl rfl (fun _=>rfl)) rfl ?_
  rw [<- swp_list]
  have hm0:=(swp_sz m I (I - 1)).trans hm
  generalize swp m I (I - 1)=m0 at hG hm0 ⊢
  refine wH rfl ?_;refine jA ?_
  have wIa:IntKind.i64.wrap (((I:Nat):Int) - ((a:Nat):Int))=((I - a:Nat):Int):=by rw [IntKind.wrap_i64];omega
  obtain ⟨m1,e1⟩:∃z,pi1 (ltI l L) a I m0=z:=⟨_,rfl⟩
  have hm1:m1.size=n:=by rw [<- e1,pi1_sz];exact hm0
  rw [e1] at hG
  rw [pi1] at e1
  refine AW.cutT (ι:=Unit) (fun _=>[(0,.row 201 0 0 n),(1,.i .i64 ((a:Nat):Int)),(2,.i .i64 ((b:Nat):Int)),(3,.fn 300 [.own 210 0 0] []),(9,.i .i64 ((I:Nat):Int)),(10,.i .i64 ((st:Nat):Int))]) (fun _=>gl q [210,201] (ioB l n (m1))) (fun _=>True) ?_ fun _ _=>?_
  · refine AW.cond rfl (fun h3=>?_) (fun h3=>?_)
    rotate_left
    · have k3 : ¬ I - a >= 2 := by
        have:=of_decide_eq_false h3
        simp only [Int.ofNat_eq_natCast] at this
        rw [wIa] at this
        omega
      rw [decide_eq_false k3,cond_false] at e1
      subst e1
      refine jA ?_
      exact ⟨(),trivial,⟨Rn.rowIs rfl rfl rfl,Rn.is rfl rfl,Rn.is rfl rfl,Rn.fnO rfl rfl rfl,Rn.is rfl rfl,Rn.is rfl rfl,trivial⟩,io_end rfl rfl rfl rfl rfl (rfl) (rowFit (by assumption))⟩
    have k3:I - a>=2:=by
      have:=of_decide_eq_true h3
      simp only [Int.ofNat_eq_natCast] at this
      rw [wIa] at this
      omega
    rw [decide_eq_true k3,cond_true] at e1
    have wj:IntKind.i64.wrap (((I:Nat):Int) - Int.ofNat 1)=((I - 1:Nat):Int):=by simp only [IntKind.wrap_i64,Int.ofNat_eq_natCast];omega
    refine jA ?_
    refine AW.loopL (ι:=Nat × Array (Fin (L+1))) (fun x=>[(0,.row 201 0 0 n),(1,.i .i64 ((a:Nat):Int)),(2,.i .i64 ((b:Nat):Int)),(3,.fn 300 [.own 210 0 0] []),(9,.i .i64 ((I:Nat):Int)),(10,.i .i64 ((st:Nat):Int)),(11,.i .i64 ((x.1:Nat):Int))]) (fun x=>gl q [210,201] (ioB l n (x.2))) (fun x=>(x.1<I/\x.2.size=n)/\Go.Sort.shiftDown (ltI l L) x.1 x.2=m1) (fun x=>x.1) (I - 1,m0) ⟨⟨by show I - 1<I;omega,hm0⟩,e1⟩ ⟨Rn.rowIs rfl rfl rfl,Rn.is rfl rfl,Rn.is rfl rfl,Rn.fnO rfl rfl rfl,Rn.is rfl rfl,Rn.is rfl rfl,Rn.is (congrArg (AV.i .i64) wj) rfl,trivial⟩ (io_end rfl rfl rfl rfl rfl (rfl) (rowFit (by assumption))) fun x hx=>?_
    clear e1 wj
    obtain ⟨j,v⟩:=x
    obtain ⟨⟨hj,hv⟩,hs⟩:=hx
    simp only at hj hv hs
    refine jA ?_
    refine AW.cond rfl (fun h4=>?_) (fun h4=>?_)
    rotate_left
    · have k4 : j = 0 := by
        have:=of_decide_eq_false h4
        simp only [Int.ofNat_eq_natCast] at this
        omega
      subst k4
      have hs:v=m1:=hs
      subst hs
      refine jA ?_
      refine AW.exit ?_;refine Eq.mpr (if_pos rfl) ?_;refine jA ?_
      exact ⟨(),trivial,⟨Rn.rowIs rfl rfl rfl,Rn.is rfl rfl,Rn.is rfl rfl,Rn.fnO rfl rfl rfl,Rn.is rfl rfl,Rn.is rfl rfl,trivial⟩,io_end rfl rfl rfl rfl rfl (rfl) (rowFit (by assumption))⟩
    have k4:0<j:=by
      have:=of_decide_eq_true h4
      simp only [Int.ofNat_eq_natCast] at this
      omega
    obtain ⟨j,rfl⟩:∃z,j=z+1:=⟨j - 1,by omega⟩
    rw [Go.Sort.shiftDown] at hs
    have wk:IntKind.i64.wrap (((j+1:Nat):Int) - Int.ofNat 1)=((j:Nat):Int):=by simp only [IntKind.wrap_i64,Int.ofNat_eq_natCast];omega
    refine jB ?_
    refine AW.draws mixed_ok ?_
    refine wH rfl ?_;refine RG.opS rfl (op_ixW (j+1) numF ((v).toList) (by omega) rfl (tab_ok ty_ok rfl) rfl (tab_ok ty_ok rfl) rfl rfl rfl jX) rfl ?_;refine RG.opS rfl (op_ldW (j+1) numF (v) (by omega) rfl (tab_ok ty_ok rfl) rfl rfl rfl) rfl ?_
    refine wH rfl ?_;refine RG.opS rfl (op_ixW (j) numF ((v).toList) (by omega) rfl (tab_ok ty_ok rfl) rfl (tab_ok ty_ok rfl) rfl rfl rfl jX) rfl ?_;refine RG.opS rfl (op_ldW (j) numF (v) (by omega) rfl (tab_ok ty_ok rfl) rfl rfl rfl) rfl ?_
    refine wH rfl ?_
    refine RG.ownK [(210,210),(201,201)] [(210,210),(201,201)] 201 201 rfl (fun q=>m_compare l L hL n (v) (v[j+1]!) (v[j]!) q (rowFit (by assumption))) rfl rfl rfl rfl rfl rfl rfl rfl rfl rfl rfl rfl rfl ?_
    refine wH rfl ?_;refine jB ?_
    refine AW.cond rfl (fun h5=>?_) (fun h5=>?_)
    · rw [if_pos (show (!ltI l L v[j+1]! v[j]!)=true from h5)] at hs
      subst hs
      refine jA ?_
      refine AW.exit ?_;first | (refine Eq.mpr (if_pos rfl) ?_) | (refine Eq.mpr (if_neg (by decide)) ?_;refine Eq.mpr (if_pos rfl) ?_) | (refine Eq.mpr (if_neg (by decide)) ?_;refine Eq.mpr (if_neg (by decide)) ?_;refine Eq.mpr (if_pos rfl) ?_);refine jA ?_
      exact ⟨(),trivial,⟨Rn.rowIs rfl rfl rfl,Rn.is rfl rfl,Rn.is rfl rfl,Rn.fnO rfl rfl rfl,Rn.is rfl rfl,Rn.is rfl rfl,trivial⟩,io_end rfl rfl rfl rfl rfl (rfl) (rowFit (by assumption))⟩
    · rw [if_neg (by rw [show (!ltI l L v[j+1]! v[j]!)=false from h5];decide)] at hs
      have hv2:=(swp_sz v (j+1) j).trans hv
      refine jB ?_
      refine AW.draws mixed_ok ?_
      refine wH rfl ?_;refine RG.opS rfl (op_ixW (j) numF ((v).toList) (by omega) rfl (tab_ok ty_ok rfl) rfl (tab_ok ty_ok rfl) rfl rfl rfl jX) rfl ?_;refine RG.opS rfl (op_ldW (j) numF (v) (by omega) rfl (tab_ok ty_ok rfl) rfl rfl rfl) rfl ?_;refine wH rfl ?_;refine RG.opS rfl (op_ixW (j+1) numF ((v).toList) (by omega) rfl (tab_ok ty_ok rfl) rfl (tab_ok ty_ok rfl) rfl rfl rfl jX) rfl ?_;refine RG.opS rfl (op_ldW (j+1) numF (v) (by omega) rfl (tab_ok ty_ok rfl) rfl rfl rfl) rfl ?_;refine wH rfl ?_;refine RG.opS rfl (op_ixW (j+1) numF ((v).toList) (by omega) rfl (tab_ok ty_ok rfl) rfl (tab_ok ty_ok rfl) rfl rfl rfl jX) rfl ?_;refine RG.opS rfl (op_stW (j+1) numF ((v).toList) ((v)[j]!) (by simp only [List.length_set,Array.length_toList];omega) rfl (tab_ok ty_ok rfl) rfl rfl rfl rfl rfl (fun _=>rfl)) rfl ?_;refine wH rfl ?_;refine RG.opS rfl (op_ixW (j) numF (((v).toList.set (j+1) (v)[j]!)) (by omega) rfl (tab_ok ty_ok rfl) rfl (tab_ok ty_ok rfl) rfl rfl rfl jX) rfl ?_;refine RG.opS rfl (op_stW (j) numF (((v).toList.set (j+1) (v)[j]!)) ((v)[j+1]!) (by simp only [List.length_set,Array.length_toList];omega) rfl (tab_ok ty_ok rfl) rfl rfl rfl rfl rfl (fun _=>rfl)) rfl ?_
      refine wH rfl ?_;refine jB ?_
      refine AW.text ?_
      refine wH rfl ?_;refine jB ?_
      exact ⟨(j,swp v (j+1) j),⟨⟨⟨by show j<I;omega,hv2⟩,hs⟩,by show j<j+1;omega⟩,⟨Rn.rowTIs rfl rfl rfl (rowFit (hv2)),Rn.is rfl rfl,Rn.is rfl rfl,Rn.fnO rfl rfl rfl,Rn.is rfl rfl,Rn.is rfl rfl,Rn.is (congrArg (AV.i .i64) wk) rfl,trivial⟩,io_end rfl rfl rfl rfl rfl (by rw [swp_list]) (rowFit (by assumption))⟩
  have wbI:IntKind.i64.wrap (((b:Nat):Int) - ((I:Nat):Int))=((b - I:Nat):Int):=by rw [IntKind.wrap_i64];omega
  obtain ⟨m2,e2⟩:∃z,pi2 (ltI l L) b I m1=z:=⟨_,rfl⟩
  have hm2:m2.size=n:=by rw [<- e2,pi2_sz];exact hm1
  rw [e2] at hG
  rw [pi2] at e2
  refine jA ?_
  refine AW.cutB (ι:=Unit) (fun _=>[(0,.row 201 0 0 n),(1,.i .i64 ((a:Nat):Int)),(2,.i .i64 ((b:Nat):Int)),(3,.fn 300 [.own 210 0 0] []),(9,.i .i64 ((I:Nat):Int)),(10,.i .i64 ((st:Nat):Int))]) (fun _=>gl q [210,201] (ioB l n (m2))) (fun _=>True) ?_ fun _ _=>?_
  · refine AW.cond rfl (fun h3=>?_) (fun h3=>?_)
    rotate_left
    · have k3 : ¬ b - I >= 2 := by
        have:=of_decide_eq_false h3
        simp only [Int.ofNat_eq_natCast] at this
        rw [wbI] at this
        omega
      rw [decide_eq_false k3,cond_false] at e2
      subst e2
      refine jA ?_
      exact ⟨(),trivial,⟨Rn.rowIs rfl rfl rfl,Rn.is rfl rfl,Rn.is rfl rfl,Rn.fnO rfl rfl rfl,Rn.is rfl rfl,Rn.is rfl rfl,trivial⟩,io_end rfl rfl rfl rfl rfl (rfl) (rowFit (by assumption))⟩
    have k3:b - I>=2:=by
      have:=of_decide_eq_true h3
      simp only [Int.ofNat_eq_natCast] at this
      rw [wbI] at this
      omega
    rw [decide_eq_true k3,cond_true] at e2
    have wj:IntKind.i64.wrap (((I:Nat):Int)+Int.ofNat 1)=((I+1:Nat):Int):=by simp only [IntKind.wrap_i64,Int.ofNat_eq_natCast];omega
    refine jA ?_
    refine AW.loopL (ι:=Nat × Array (Fin (L+1))) (fun x=>[(0,.row 201 0 0 n),(1,.i .i64 ((a:Nat):Int)),(2,.i .i64 ((b:Nat):Int)),(3,.fn 300 [.own 210 0 0] []),(9,.i .i64 ((I:Nat):Int)),(10,.i .i64 ((st:Nat):Int)),(12,.i .i64 ((x.1:Nat):Int))]) (fun x=>gl q [210,201] (ioB l n (x.2))) (fun x=>(I<x.1/\x.1<=b/\x.2.size=n)/\Go.Sort.shiftUp (ltI l L) b x.1 x.2=m2) (fun x=>b - x.1) (I+1,m1) ⟨⟨by show I<I+1;omega,by show I+1<=b;omega,hm1⟩,e2⟩ ⟨Rn.rowIs rfl rfl rfl,Rn.is rfl rfl,Rn.is rfl rfl,Rn.fnO rfl rfl rfl,Rn.is rfl rfl,Rn.is rfl rfl,Rn.is (congrArg (AV.i .i64) wj) rfl,trivial⟩ (io_end rfl rfl rfl rfl rfl (rfl) (rowFit (by assumption))) fun x hx=>?_
    clear e2 wj
    obtain ⟨j,v⟩:=x
    obtain ⟨⟨hj0,hj,hv⟩,hs⟩:=hx
    simp only at hj0 hj hv hs
    rw [Go.Sort.shiftUp] at hs
    refine jA ?_
    refine AW.cond rfl (fun h4=>?_) (fun h4=>?_)
    rotate_left
    · have k4 : ¬ j < b := by
        have:=of_decide_eq_false h4
        omega
      rw [if_neg k4] at hs
      subst hs
      refine jA ?_
      refine AW.exit ?_;refine Eq.mpr (if_pos rfl) ?_;refine jA ?_
      exact ⟨(),trivial,⟨Rn.rowIs rfl rfl rfl,Rn.is rfl rfl,Rn.is rfl rfl,Rn.fnO rfl rfl rfl,Rn.is rfl rfl,Rn.is rfl rfl,trivial⟩,io_end rfl rfl rfl rfl rfl (rfl) (rowFit (by assumption))⟩
    have k4:j<b:=by
      have:=of_decide_eq_true h4
      omega
    rw [if_pos k4] at hs
    have wk:IntKind.i64.wrap (((j:Nat):Int)+Int.ofNat 1)=((j+1:Nat):Int):=by simp only [IntKind.wrap_i64,Int.ofNat_eq_natCast];omega
    refine jB ?_
    refine AW.draws mixed_ok ?_
    refine wH rfl ?_;refine RG.opS rfl (op_ixW (j) numF ((v).toList) (by omega) rfl (tab_ok ty_ok rfl) rfl (tab_ok ty_ok rfl) rfl rfl rfl jX) rfl ?_;refine RG.opS rfl (op_ldW (j) numF (v) (by omega) rfl (tab_ok ty_ok rfl) rfl rfl rfl) rfl ?_
    refine wH rfl ?_;refine RG.opS rfl (op_ixW (j - 1) numF ((v).toList) (by omega) rfl (tab_ok ty_ok rfl) rfl (tab_ok ty_ok rfl) rfl rfl rfl jX) rfl ?_;refine RG.opS rfl (op_ldW (j - 1) numF (v) (by omega) rfl (tab_ok ty_ok rfl) rfl rfl rfl) rfl ?_
    refine wH rfl ?_
    refine RG.ownK [(210,210),(201,201)] [(210,210),(201,201)] 201 201 rfl (fun q=>m_compare l L hL n (v) (v[j]!) (v[j - 1]!) q (rowFit (by assumption))) rfl rfl rfl rfl rfl rfl rfl rfl rfl rfl rfl rfl rfl ?_
    refine wH rfl ?_;refine jB ?_
    refine AW.cond rfl (fun h5=>?_) (fun h5=>?_)
    · rw [if_pos (show (!ltI l L v[j]! v[j - 1]!)=true from h5)] at hs
      subst hs
      refine jA ?_
      refine AW.exit ?_;first | (refine Eq.mpr (if_pos rfl) ?_) | (refine Eq.mpr (if_neg (by decide)) ?_;refine Eq.mpr (if_pos rfl) ?_) | (refine Eq.mpr (if_neg (by decide)) ?_;refine Eq.mpr (if_neg (by decide)) ?_;refine Eq.mpr (if_pos rfl) ?_);refine jA ?_
      exact ⟨(),trivial,⟨Rn.rowIs rfl rfl rfl,Rn.is rfl rfl,Rn.is rfl rfl,Rn.fnO rfl rfl rfl,Rn.is rfl rfl,Rn.is rfl rfl,trivial⟩,io_end rfl rfl rfl rfl rfl (rfl) (rowFit (by assumption))⟩
    · rw [if_neg (by rw [show (!ltI l L v[j]! v[j - 1]!)=false from h5];decide)] at hs
      have hv2:=(swp_sz v j (j - 1)).trans hv
      refine jB ?_
      refine AW.draws mixed_ok ?_
      refine wH rfl ?_;refine RG.opS rfl (op_ixW (j - 1) numF ((v).toList) (by omega) rfl (tab_ok ty_ok rfl) rfl (tab_ok ty_ok rfl) rfl rfl rfl jX) rfl ?_;refine RG.opS rfl (op_ldW (j - 1) numF (v) (by omega) rfl (tab_ok ty_ok rfl) rfl rfl rfl) rfl ?_;refine wH rfl ?_;refine RG.opS rfl (op_ixW (j) numF ((v).toList) (by omega) rfl (tab_ok ty_ok rfl) rfl (tab_ok ty_ok rfl) rfl rfl rfl jX) rfl ?_;refine RG.opS rfl (op_ldW (j) numF (v) (by omega) rfl (tab_ok ty_ok rfl) rfl rfl rfl) rfl ?_;refine wH rfl ?_;refine RG.opS rfl (op_ixW (j) numF ((v).toList) (by omega) rfl (tab_ok ty_ok rfl) rfl (tab_ok ty_ok rfl) rfl rfl rfl jX) rfl ?_;refine RG.opS rfl (op_stW (j) numF ((v).toList) ((v)[j - 1]!) (by simp only [List.length_set,Array.length_toList];omega) rfl (tab_ok ty_ok rfl) rfl rfl rfl rfl rfl (fun _=>rfl)) rfl ?_;refine wH rfl ?_;refine RG.opS rfl (op_ixW (j - 1) numF (((v).toList.set (j) (v)[j - 1]!)) (by omega) rfl (tab_ok ty_ok rfl) rfl (tab_ok ty_ok rfl) rfl rfl rfl jX) rfl ?_;refine RG.opS rfl (op_stW (j - 1) numF (((v).toList.set (j) (v)[j - 1]!)) ((v)[j]!) (by simp only [List.length_set,Array.length_toList];omega) rfl (tab_ok ty_ok rfl) rfl rfl rfl rfl rfl (fun _=>rfl)) rfl ?_
      refine wH rfl ?_;refine jB ?_
      refine AW.text ?_
      refine wH rfl ?_;refine jB ?_
      exact ⟨(j+1,swp v j (j - 1)),⟨⟨⟨by show I<j+1;omega,by show j+1<=b;omega,hv2⟩,hs⟩,by show b - (j+1)<b - j;omega⟩,⟨Rn.rowTIs rfl rfl rfl (rowFit (hv2)),Rn.is rfl rfl,Rn.is rfl rfl,Rn.fnO rfl rfl rfl,Rn.is rfl rfl,Rn.is rfl rfl,Rn.is (congrArg (AV.i .i64) wk) rfl,trivial⟩,io_end rfl rfl rfl rfl rfl (by rw [swp_list]) (rowFit (by assumption))⟩
  have ws:IntKind.i64.wrap (((st:Nat):Int)+Int.ofNat 1)=((st+1:Nat):Int):=by simp only [IntKind.wrap_i64,Int.ofNat_eq_natCast];omega
  refine jA ?_
  exact ⟨((I,st+1),m2),⟨⟨⟨by show a<I;omega,by show I<=b;omega,by show st+1<=5;omega,hm2⟩,hG⟩,by show 5 - (st+1)<5 - st;omega⟩,⟨Rn.rowIs rfl rfl rfl,Rn.is rfl rfl,Rn.is rfl rfl,Rn.fnO rfl rfl rfl,Rn.is rfl rfl,Rn.is (congrArg (AV.i .i64) ws) rfl,trivial⟩,io_end rfl rfl rfl rfl rfl (rfl) (rowFit (by assumption))⟩
end Go.Proofs.YtoaibdbehlcnfaaGreat.Sm
end
section
namespace Go.Proofs.YtoaibdbehlcnfaaGreat.Sm
open Go.RowKit
open Go.Sort (swp)
theorem tab_all {l:List UInt8} (h:(List.range 256).all (fun k=>l[k]? == some (UInt8.ofNat (Go.Sort.bitsLen k)))=true) {v:UInt64} (hv:v.toNat<256):l[v.toUInt8.toNat]?=some (UInt8.ofNat (Go.Sort.bitsLen v.toNat)):=by
 have h1:=List.all_eq_true.1 h v.toNat (List.mem_range.2 hv)
 have e:v.toUInt8.toNat=v.toNat:=by rw [UInt64.toNat_toUInt8];omega
 rw [e]
 simpa using h1
theorem bitsLen_8 {k:Nat} (h:k<256):Go.Sort.bitsLen k<=8:=(Go.Sort.bitsLen_le_iff k 8).2 h
theorem d_Len64X (v:UInt64) (hv:v.toNat<256):PDoes Tryz.prog 223 [.u v] (.i .i64 ((Go.Sort.bitsLen v.toNat:Nat):Int)):=by
 refine PDoes.of_bodyN Tryz.func223 rfl (by kernel_rfl) rfl rfl ?_
 have h8:=bitsLen_8 hv
 refine jA ?_
 refine AW.cond rfl (fun h=>?_) (fun h=>?_)
 ·have:=UInt64.le_iff_toNat_le.1 (of_decide_eq_true h)
  exact absurd (Nat.lt_of_le_of_lt this hv) (by decide)
 clear h
 refine jA ?_
 refine AW.cond rfl (fun h=>?_) (fun h=>?_)
 ·have:=UInt64.le_iff_toNat_le.1 (of_decide_eq_true h)
  exact absurd (Nat.lt_of_le_of_lt this hv) (by decide)
 clear h
 refine jA ?_
 refine AW.cond rfl (fun h=>?_) (fun h=>?_)
 ·have:=UInt64.le_iff_toNat_le.1 (of_decide_eq_true h)
  exact absurd (Nat.lt_of_le_of_lt this hv) (by decide)
 clear h
 refine jA ?_
 refine RG.opS rfl (op_indexSy rfl (tab_ok ty_ok rfl) rfl rfl rfl (tab_all (by kernel_rfl) hv)) rfl ?_
 refine wH rfl ?_;refine jA ?_
 refine AW.ret (retQA ty_ok rfl rfl rfl ?_)
 have e:(UInt8.ofNat (Go.Sort.bitsLen v.toNat)).toNat=Go.Sort.bitsLen v.toNat:=by rw [UInt8.toNat_ofNat'];omega
 have e2:IntKind.i64.wrap ((Go.Sort.bitsLen v.toNat:Nat):Int)=((Go.Sort.bitsLen v.toNat:Nat):Int):=by rw [IntKind.wrap_i64];omega
 show AV.i .i64 (IntKind.i64.wrap (0+IntKind.i64.wrap (((UInt8.ofNat (Go.Sort.bitsLen v.toNat)).toNat:Nat):Int)))=_
 rw [e,e2,Int.zero_add,e2]
theorem d_LenX (v:UInt64) (hv:v.toNat<256):PDoes Tryz.prog 168 [.u v] (.i .i64 ((Go.Sort.bitsLen v.toNat:Nat):Int)):=by
 have hr:=d_Len64X v hv
 refine PDoes.of_bodyN Tryz.func168 rfl (by kernel_rfl) rfl rfl ?_
 refine jA ?_
 refine AW.condF rfl ?_;refine jA ?_
 refine RG.callS rfl rfl rfl rfl rfl hr rfl rfl ?_;refine wH rfl ?_;refine jA ?_
 refine AW.ret (retQA ty_ok rfl rfl rfl ?_)
 rfl
theorem ofI_len {k:Nat} (h:k<256):(ofI64 ((k:Nat):Int)).toNat=k:=by
 have e:=ofI64_nat ((k:Nat):Int)
 rw [IntKind.wrap_u64] at e
 omega
def pow2 (k:Nat):UInt64:=shl64 (UInt64.ofNat 1) (Go.Sort.bitsLen k)
theorem d_nextPow (k:Nat) (hk:k<256):PDoes Tryz.prog 264 [.i .i64 ((k:Nat):Int)] (.u (pow2 k)):=by
 have hr:=d_LenX (ofI64 ((k:Nat):Int)) (by rw [ofI_len hk];exact hk)
 rw [ofI_len hk] at hr
 refine PDoes.of_bodyN Tryz.func264 rfl (by kernel_rfl) rfl rfl ?_
 refine jA ?_
 refine RG.callS rfl rfl rfl rfl rfl hr rfl rfl ?_;refine wH rfl ?_;refine jA ?_
 refine AW.ret (retQA ty_ok rfl rfl rfl ?_)
 rfl
theorem shl64_eq (a:UInt64) {k:Nat} (h:k<64):shl64 a k=a <<< UInt64.ofNat k:=by
 apply UInt64.toNat_inj.1
 rw [shl64,UInt64.toNat_ofNat',UInt64.toNat_shiftLeft,UInt64.toNat_ofNat',Nat.shiftLeft_eq,Nat.min_eq_left (by omega)]
 have:k % 2 ^ 64 % 64=k:=by omega
 rw [this]
theorem shr64_eq (a:UInt64) {k:Nat} (h:k<64):shr64 a k=a >>> UInt64.ofNat k:=by
 apply UInt64.toNat_inj.1
 rw [shr64,UInt64.toNat_ofNat',UInt64.toNat_shiftRight,UInt64.toNat_ofNat',Nat.shiftRight_eq_div_pow,Nat.min_eq_left (by omega)]
 have:k % 2 ^ 64 % 64=k:=by omega
 rw [this]
 exact Nat.mod_eq_of_lt (Nat.lt_of_le_of_lt (Nat.div_le_self _ _) (UInt64.toNat_lt a))
def xsB (r:UInt64):List (Nat × SB):=[(240,⟨0,some (.box 338 [.u r])⟩)]
theorem m_next (r:UInt64) (q:Nat->Option (Nat × Nat)):MDoes Tryz.prog 265 [.own 240 0 0] (gl q [240] (xsB r)) (.u (Go.Sort.xorNext r)) (gl q [240] (xsB (Go.Sort.xorNext r))):=by
 refine MDoes.of_body Tryz.func265 rfl (by kernel_rfl) rfl rfl ?_
 have e:Go.Sort.xorNext r=((r ^^^ shl64 r 13) ^^^ shr64 (r ^^^ shl64 r 13) 7) ^^^ shl64 ((r ^^^ shl64 r 13) ^^^ shr64 (r ^^^ shl64 r 13) 7) 17:=by
  rw [shl64_eq _ (by decide),shr64_eq _ (by decide),shl64_eq _ (by decide)];rfl
 rw [e]
 refine jA ?_
 exact AW.ret (retM1 rfl (Rm.is rfl rfl) ⟨.ghost rfl rfl rfl,.boxL rfl ⟨Rn.is rfl rfl,trivial⟩ rfl,trivial⟩)
section
variable {α : Type} [Inhabited α]
def brkL (a len md:Nat):Nat->Nat->UInt64 × Array α->UInt64 × Array α
 | 0,_,st=>st
 | k+1,idx,st=>brkL a len md k (idx+1) (Go.Sort.breakStep a len md st idx)
theorem brk_eq {d:Array α} {a b:Nat} (h:b - a>=8):Go.Sort.breakPatterns d a b=(brkL a (b - a) (1 <<< Go.Sort.bitsLen (b - a)) 3 (a+(b - a) / 4*2 - 1) (UInt64.ofNat (b - a),d)).2:=by
 rw [Go.Sort.breakPatterns]
 simp only [h,if_true]
 rfl
def brkO (len md:Nat) (r:UInt64):Nat:=bif decide ((Go.Sort.xorNext r).toNat &&& (md - 1)>=len) then ((Go.Sort.xorNext r).toNat &&& (md - 1)) - len else (Go.Sort.xorNext r).toNat &&& (md - 1)
theorem brk_step {a len md idx:Nat} {r:UInt64} {d:Array α}:Go.Sort.breakStep a len md (r,d) idx=(Go.Sort.xorNext r,swp d idx (a+brkO len md r)):=by
 rw [Go.Sort.breakStep,brkO]
 simp only [Bool.cond_decide]
theorem brkO_lt {len:Nat} (h:0<len) (r:UInt64):brkO len (1 <<< Go.Sort.bitsLen len) r<len:=by
 have h1:=Go.Sort.two_pow_bitsLen_le h
 have h2:(Go.Sort.xorNext r).toNat &&& ((1 <<< Go.Sort.bitsLen len) - 1)<=(1 <<< Go.Sort.bitsLen len) - 1:=Nat.and_le_right
 rw [Nat.one_shiftLeft] at h2 ⊢
 rw [brkO]
 have h3:0<2 ^ Go.Sort.bitsLen len:=Nat.two_pow_pos _
 by_cases k:(Go.Sort.xorNext r).toNat &&& (2 ^ Go.Sort.bitsLen len - 1)>=len
 ·rw [decide_eq_true k,cond_true];omega
 ·rw [decide_eq_false k,cond_false];omega
end
theorem pow2_and {len:Nat} (h:len<256) (h0:0<len) (r:UInt64):IntKind.i64.wrap (((r &&& (pow2 len - UInt64.ofNat 1)).toNat:Nat):Int)=((r.toNat &&& ((1 <<< Go.Sort.bitsLen len) - 1):Nat):Int):=by
 have h8:=bitsLen_8 h
 have e:(pow2 len).toNat=1 <<< Go.Sort.bitsLen len:=by
  rw [pow2,shl64,UInt64.toNat_ofNat',Nat.one_shiftLeft,Nat.min_eq_left (by omega)]
  have h1:2 ^ Go.Sort.bitsLen len<=2 ^ 8:=Nat.pow_le_pow_right (by decide) h8
  show (1*2 ^ Go.Sort.bitsLen len) % 2 ^ 64=_
  rw [Nat.one_mul]
  exact Nat.mod_eq_of_lt (by omega)
 have hp:0<1 <<< Go.Sort.bitsLen len:=by rw [Nat.one_shiftLeft];exact Nat.two_pow_pos _
 have h2:(1 <<< Go.Sort.bitsLen len)<=2 ^ 8:=by rw [Nat.one_shiftLeft];exact Nat.pow_le_pow_right (by decide) h8
 have e2:(pow2 len - UInt64.ofNat 1).toNat=(1 <<< Go.Sort.bitsLen len) - 1:=by
  rw [UInt64.toNat_sub_of_le _ _ (UInt64.le_iff_toNat_le.2 (by rw [e];exact hp)),e];rfl
 rw [UInt64.toNat_and,e2]
 have h3:r.toNat &&& ((1 <<< Go.Sort.bitsLen len) - 1)<=(1 <<< Go.Sort.bitsLen len) - 1:=Nat.and_le_right
 generalize r.toNat &&& ((1 <<< Go.Sort.bitsLen len) - 1)=x at h3
 rw [IntKind.wrap_i64];omega
end Go.Proofs.YtoaibdbehlcnfaaGreat.Sm
end
section
namespace Go.Proofs.YtoaibdbehlcnfaaGreat.Sm
open Go.RowKit
open Go.Sort (swp)
def bpB {L:Nat} (q:Nat->Option (Nat × Nat)) (l:List Rl) (n:Nat) (d:Array (Fin (L+1))) (r:UInt64):List (Nat × SB):=(9,⟨0,some (.box 338 [.u r])⟩)::gl q [210,201] (ioB l n d)
theorem bp_end {L:Nat} {l:List Rl} {d:Array (Fin (L+1))} {s:St} {q:Nat->Option (Nat × Nat)} {n e e1 e1' e3 g g1:Nat} {r:UInt64} {els:List (List AV)} {cs:List AV} (h3:s.σ 9=⟨e3,some (.box 338 cs)⟩) (h0:s.σ 210=⟨e,some (.box 368 [.sl (l.map cRl),.row 201 e1 0 n])⟩) (h1:s.σ 201=⟨e1',some (.row 3 1 els)⟩)
  (hg:s.σ 1110=⟨g,some (.ghost 210 e (q 210))⟩) (hg1:s.σ 1101=⟨g1,some (.ghost 201 e1' (q 201))⟩) (he:e1=e1') (hc:cs=[.u r]) (hel:els=d.toList.map numF) (hn:0+n<=(d.toList.map numF).length):WkB s (lkB (bpB q l n d r)) (bpB q l n d r):=by
 subst he hel hc
 exact ⟨.boxL h3 ⟨Rn.is rfl rfl,trivial⟩ rfl,.ghost hg h0 rfl,.ghost hg1 h1 rfl,.boxL h0 ⟨Rn.is rfl rfl,Rn.rowIs rfl h1 rfl,trivial⟩ rfl,.row h1 rfl,trivial⟩
theorem m_break (l:List Rl) (L:Nat) (hL:l.length=L+1) (n:Nat) (hl:n<=100000) (d:Array (Fin (L+1))) (hn:d.size=n) (a b:Nat) (hab:a+8<=b) (hb:b<=n) (h256:n<256) (q:Nat->Option (Nat × Nat)):MDoes Tryz.prog 312 [.row 201 0 0 n,.i .i64 ((a:Nat):Int),.i .i64 ((b:Nat):Int),.fn 300 [.own 210 0 0] []] (gl q [210,201] (ioB l n (d))) (.tup []) (gl q [210,201] (ioB l n (Go.Sort.breakPatterns d a b))):=by
 refine MDoes.of_body Tryz.func312 rfl (by kernel_rfl) rfl rfl ?_
 obtain ⟨G,hG⟩:∃R,Go.Sort.breakPatterns d a b=R:=⟨_,rfl⟩
 rw [hG]
 rw [brk_eq (by omega)] at hG
 have wl:IntKind.i64.wrap (((b:Nat):Int) - ((a:Nat):Int))=((b - a:Nat):Int):=by rw [IntKind.wrap_i64];omega
 generalize hm:b - a=m at wl hG
 have w2:=w_quo4 m 2 (by omega) (by decide) a (by omega)
 have wb:IntKind.i64.wrap (((a+m / 4*2:Nat):Int) - Int.ofNat 1)=((a+m / 4*2 - 1:Nat):Int):=by rw [IntKind.wrap_i64];simp only [Int.ofNat_eq_natCast];omega
 have wc:IntKind.i64.wrap (((a+m / 4*2:Nat):Int)+Int.ofNat 1)=((a+m / 4*2+1:Nat):Int):=by rw [IntKind.wrap_i64];simp only [Int.ofNat_eq_natCast];omega
 have hlen:=d_nextPow m (by omega)
 have hr0:ofI64 ((m:Nat):Int)=UInt64.ofNat m:=ofI_nat m (by omega)
 refine jB ?_
 refine AW.text ?_
 refine RG.runO ty_ok 0 [(15,.i .i64 ((m:Nat):Int))] 400 rfl jD ?_
 refine jA ?_
 refine AW.cond rfl (fun h0=>?_) (fun h0=>?_)
 rotate_left
 ·exfalso
  have:=of_decide_eq_false h0
  simp only [Int.ofNat_eq_natCast] at this
  omega
 refine jB ?_;refine wF ?_;refine wH rfl ?_;refine jB ?_
 refine AW.text ?_
 refine wH rfl ?_
 refine RG.callS rfl rfl rfl rfl rfl hlen rfl rfl ?_
 refine wH rfl ?_;refine jB ?_
 refine AW.text ?_
 refine RG.runO ty_ok 0 [(26,.i .i64 ((a+m / 4*2:Nat):Int)),(27,.i .i64 ((a+m / 4*2 - 1:Nat):Int))] 400 rfl jD ?_
 refine jA ?_
 have hm4:m / 4*2+1<m/\2<=m / 4:=by omega
 obtain ⟨c,hc⟩:∃c,a+m / 4*2 - 1=c:=⟨_,rfl⟩
 have hc1:a+m / 4*2=c+1:=by omega
 have hc2:a+m / 4*2+1=c+2:=by omega
 rw [hc] at hG
 refine AW.loopL (ι:=Nat × (UInt64 × Array (Fin (L+1)))) (fun x=>[(0,.row 201 0 0 n),(1,.i .i64 ((a:Nat):Int)),(8,.i .i64 ((m:Nat):Int)),(9,.own 9 0 0),(10,.u (pow2 m)),(11,.i .i64 ((x.1:Nat):Int))]) (fun x=>bpB q l n x.2.2 x.2.1) (fun x=>(c<=x.1/\x.1<=c+3/\x.2.2.size=n)/\(brkL a m (1 <<< Go.Sort.bitsLen m) (c+3 - x.1) x.1 x.2).2=G) (fun x=>c+3 - x.1) (c,(UInt64.ofNat m,d)) ⟨⟨Nat.le_refl _,by show c<=c+3;omega,hn⟩,by show (brkL a m _ (c+3 - c) c _).2=G;rw [Nat.add_sub_cancel_left];exact hG⟩ ⟨Rn.rowIs rfl rfl rfl,Rn.is rfl rfl,Rn.is rfl rfl,Rn.ownIs rfl rfl rfl,Rn.is rfl rfl,Rn.is (congrArg (AV.i .i64) (show (((a+m / 4*2 - 1:Nat):Int))=((c:Nat):Int) by rw [hc])) rfl,trivial⟩ (bp_end rfl rfl rfl rfl rfl rfl (by rw [<- hr0]) (rfl) (rowFit hn)) fun x hx=>?_
 clear hG hn
 obtain ⟨i,r,v⟩:=x
 obtain ⟨⟨hi0,hi,hv⟩,hG⟩:=hx
 simp only at hi0 hi hv hG
 refine jB ?_
 refine AW.text ?_
 refine RG.runO ty_ok 0 [(33,.i .i64 ((a+m / 4*2:Nat):Int)),(34,.i .i64 ((a+m / 4*2+1:Nat):Int))] 400 rfl jD ?_
 refine jB ?_
 refine AW.cond rfl (fun h1=>?_) (fun h1=>?_)
 rotate_left
 ·have k:i=c+3:=by
   have:=of_decide_eq_false h1
   try simp only at this
   omega
  subst k
  rw [Nat.sub_self,brkL] at hG
  subst hG
  refine jA ?_
  refine AW.exit ?_;refine Eq.mpr (if_pos rfl) ?_;refine jA ?_
  exact retM0 rfl (.inl rfl) (io_end rfl rfl rfl rfl rfl (rfl) (rowFit hv))
 have k:i<=c+2:=by
  have:=of_decide_eq_true h1
  try simp only at this
  omega
 rw [show c+3 - i=(c+3 - (i+1))+1 by omega,brkL,brk_step] at hG
 have ho:=brkO_lt (len:=m) (by omega) r
 have hoth:=pow2_and (len:=m) (by omega) (by omega) (Go.Sort.xorNext r)
 have hmd:=Go.Sort.two_pow_bitsLen_le (n:=m) (by omega)
 have hle:(Go.Sort.xorNext r).toNat &&& ((1 <<< Go.Sort.bitsLen m) - 1)<=(1 <<< Go.Sort.bitsLen m) - 1:=Nat.and_le_right
 rw [Nat.one_shiftLeft] at hle
 obtain ⟨o,hO⟩:∃o,brkO m (1 <<< Go.Sort.bitsLen m) r=o:=⟨_,rfl⟩
 rw [hO] at ho hG
 rw [brkO] at hO
 rw [Nat.one_shiftLeft] at hoth hO
 generalize (Go.Sort.xorNext r).toNat &&& (2 ^ Go.Sort.bitsLen m - 1)=oth at hoth hO hle
 have w3:oth<=100000:=by omega
 refine jB ?_
 refine AW.text ?_
 refine wH rfl ?_
 refine RG.ownN [(9,240)] [(240,9)] (fun q=>m_next r q) rfl rfl rfl rfl rfl rfl rfl rfl rfl rfl ?_
 refine RG.runO ty_ok 0 [(42,.i .i64 ((oth:Nat):Int))] 400 rfl jD ?_
 refine jA ?_
 refine AW.cutT (ι:=Unit) (fun _=>[(0,.row 201 0 0 n),(1,.i .i64 ((a:Nat):Int)),(8,.i .i64 ((m:Nat):Int)),(9,.own 9 0 0),(10,.u (pow2 m)),(11,.i .i64 ((i:Nat):Int)),(12,.i .i64 ((o:Nat):Int))]) (fun _=>bpB q l n v (Go.Sort.xorNext r)) (fun _=>True) ?_ fun _ _=>?_
 ·refine AW.cond rfl (fun h2=>?_) (fun h2=>?_)
  ·have k2:oth>=m:=by
    have:=of_decide_eq_true h2
    try simp only at this
    omega
   rw [decide_eq_true k2,cond_true] at hO
   have wo:IntKind.i64.wrap (((oth:Nat):Int) - ((m:Nat):Int))=((o:Nat):Int):=by rw [IntKind.wrap_i64];omega
   refine jA ?_
   exact ⟨(),trivial,⟨Rn.rowIs rfl rfl rfl,Rn.is rfl rfl,Rn.is rfl rfl,Rn.ownIs rfl rfl rfl,Rn.is rfl rfl,Rn.is rfl rfl,Rn.is (congrArg (AV.i .i64) wo) rfl,trivial⟩,bp_end rfl rfl rfl rfl rfl rfl (rfl) (rfl) (rowFit hv)⟩
  ·have k2:¬oth>=m:=by
    have:=of_decide_eq_false h2
    try simp only at this
    omega
   rw [decide_eq_false k2,cond_false] at hO
   subst hO
   refine jA ?_
   exact ⟨(),trivial,⟨Rn.rowIs rfl rfl rfl,Rn.is rfl rfl,Rn.is rfl rfl,Rn.ownIs rfl rfl rfl,Rn.is rfl rfl,Rn.is rfl rfl,Rn.is rfl rfl,trivial⟩,bp_end rfl rfl rfl rfl rfl rfl (rfl) (rfl) (rowFit hv)⟩
 have wi:IntKind.i64.wrap (((i:Nat):Int)+Int.ofNat 1)=((i+1:Nat):Int):=by simp only [IntKind.wrap_i64,Int.ofNat_eq_natCast];omega
 have hv2:=(swp_sz v i (a+o)).trans hv
 refine jB ?_
 refine AW.draws mixed_ok ?_
 refine wH rfl ?_;refine RG.opS rfl (op_ixW (a+o) numF ((v).toList) (by omega) rfl (tab_ok ty_ok rfl) rfl (tab_ok ty_ok rfl) rfl rfl rfl jX) rfl ?_;refine RG.opS rfl (op_ldW (a+o) numF (v) (by omega) rfl (tab_ok ty_ok rfl) rfl rfl rfl) rfl ?_;refine wH rfl ?_;refine RG.opS rfl (op_ixW (i) numF ((v).toList) (by omega) rfl (tab_ok ty_ok rfl) rfl (tab_ok ty_ok rfl) rfl rfl rfl jX) rfl ?_;refine RG.opS rfl (op_ldW (i) numF (v) (by omega) rfl (tab_ok ty_ok rfl) rfl rfl rfl) rfl ?_;refine wH rfl ?_;refine RG.opS rfl (op_ixW (i) numF ((v).toList) (by omega) rfl (tab_ok ty_ok rfl) rfl (tab_ok ty_ok rfl) rfl rfl rfl jX) rfl ?_;refine RG.opS rfl (op_stW (i) numF ((v).toList) ((v)[a+o]!) (by simp only [List.length_set,Array.length_toList];omega) rfl (tab_ok ty_ok rfl) rfl rfl rfl rfl rfl (fun _=>rfl)) rfl ?_;refine wH rfl ?_;refine RG.opS rfl (op_ixW (a+o) numF (((v).toList.set (i) (v)[a+o]!)) (by omega) rfl (tab_ok ty_ok rfl) rfl (tab_ok ty_ok rfl) rfl rfl rfl jX) rfl ?_;refine RG.opS rfl (op_stW (a+o) numF (((v).toList.set (i) (v)[a+o]!)) ((v)[i]!) (by simp only [List.length_set,Array.length_toList];omega) rfl (tab_ok ty_ok rfl) rfl rfl rfl rfl rfl (fun _=>rfl)) rfl ?_
 refine wH rfl ?_;refine jB ?_
 refine AW.text ?_
 refine wH rfl ?_;refine jB ?_
 exact ⟨(i+1,(Go.Sort.xorNext r,swp v i (a+o))),⟨⟨⟨by show c<=i+1;omega,by show i+1<=c+3;omega,hv2⟩,hG⟩,by show c+3 - (i+1)<c+3 - i;omega⟩,⟨Rn.rowTIs rfl rfl rfl (rowFit (hv2)),Rn.is rfl rfl,Rn.is rfl rfl,Rn.ownIs rfl rfl rfl,Rn.is rfl rfl,Rn.is (congrArg (AV.i .i64) wi) rfl,trivial⟩,bp_end rfl rfl rfl rfl rfl rfl (rfl) (by rw [swp_list]) (rowFit hv2)⟩
end Go.Proofs.YtoaibdbehlcnfaaGreat.Sm
end
section
namespace Go.Proofs.YtoaibdbehlcnfaaGreat.Sm
open Go.RowKit
open Go.Sort (swp)
open Go.Sort (SWO Below PermIn SortedIn)
theorem hint2 (h:Go.Sort.Hint):decide (Go.Sort.hintCode h=2)=decide (h = .decreasing):=by cases h <;> rfl
theorem hint1 (h:Go.Sort.Hint):decide (Go.Sort.hintCode h=1)=decide (h = .increasing):=by cases h <;> rfl
theorem heap_sz {α:Type} [Inhabited α] {lt:α->α->Bool} (d:Array α) (a b:Nat):(Go.Sort.heapSort lt d a b).size=d.size:=by
 rw [Go.Sort.heapSort,pop_sz,build_sz]
theorem m_pdq (l : List Rl) (L : Nat) (hL : l.length = L + 1) (n : Nat) (hl : n <= 100000) (h256 : n < 256) (hS : SWO (ltI l L)) : ∀ (f a b lim : Nat) (d : Array (Fin (L + 1))), d.size = n -> a <= b -> b <= n -> b - a <= f -> lim <= 1000 -> Below (ltI l L) a b d -> ∀ (q : Nat -> Option (Nat × Nat)),
    MDoes Tryz.prog 306 [.row 201 0 0 n,.i .i64 ((a:Nat):Int),.i .i64 ((b:Nat):Int),.i .i64 ((lim:Nat):Int),.fn 300 [.own 210 0 0] []] (gl q [210,201] (ioB l n (d))) (.tup []) (gl q [210,201] (ioB l n (Go.Sort.pdq (ltI l L) d a b lim true true))):=by
  intro f
  induction f using Nat.strongRecOn with
  | ind f IH =>
  intro a b lim d hn hab hb hf hlim hB q
  refine MDoes.of_body Tryz.func306 rfl (by kernel_rfl) rfl rfl ?_
  generalize hG:Go.Sort.pdq (ltI l L) d a b lim true true=G
  refine jA ?_
  refine AW.loopL (ι:=(Nat × Nat × Nat) × (Bool × Bool) × Array (Fin (L+1))) (fun x=>[(0,.row 201 0 0 n),(1,.i .i64 ((x.1.1:Nat):Int)),(2,.i .i64 ((x.1.2.1:Nat):Int)),(3,.i .i64 ((x.1.2.2:Nat):Int)),(4,.fn 300 [.own 210 0 0] []),(10,.b x.2.1.1),(11,.b x.2.1.2)]) (fun x=>gl q [210,201] (ioB l n (x.2.2))) (fun x=>(x.1.1<=x.1.2.1/\x.1.2.1<=n/\x.1.2.1 - x.1.1<=f/\x.1.2.2<=1000/\x.2.2.size=n/\Below (ltI l L) x.1.1 x.1.2.1 x.2.2)/\Go.Sort.pdq (ltI l L) x.2.2 x.1.1 x.1.2.1 x.1.2.2 x.2.1.1 x.2.1.2=G) (fun x=>x.1.2.1 - x.1.1) ((a,b,lim),(true,true),d) ⟨⟨hab,hb,hf,hlim,hn,hB⟩,hG⟩ ⟨Rn.rowIs rfl rfl rfl,Rn.is rfl rfl,Rn.is rfl rfl,Rn.is rfl rfl,Rn.fnO rfl rfl rfl,Rn.is rfl rfl,Rn.is rfl rfl,trivial⟩ (io_end rfl rfl rfl rfl rfl (rfl) (rowFit (by assumption))) fun x hx=>?_
  clear hG hn hab hb hf hlim hB
  obtain ⟨⟨a,b,lim⟩,⟨wb,wp⟩,d⟩:=x
  obtain ⟨⟨hab,hb,hf,hlim,hn,hB⟩,hG⟩:=hx
  simp only at hab hb hf hlim hn hB hG
  have p:=Go.Sort.pdq_unfold (lt:=ltI l L) (d:=d) (a:=a) (b:=b) (limit:=lim) (wb:=wb) (wp:=wp)
  rw [p] at hG
  clear p
  have wl:IntKind.i64.wrap (((b:Nat):Int) - ((a:Nat):Int))=((b - a:Nat):Int):=by rw [IntKind.wrap_i64];omega
  refine jB ?_
  refine AW.text ?_
  refine RG.runO ty_ok 0 [(23,.i .i64 ((b - a:Nat):Int))] 400 rfl jD ?_
  refine jA ?_
  refine AW.cond rfl (fun h0=>?_) (fun h0=>?_)
  · have h : b - a <= 12 := by
      have:=of_decide_eq_true h0
      simp only [Int.ofNat_eq_natCast] at this
      omega
    rw [if_pos h] at hG
    subst hG
    have hs:=ins_pm (ltI l L) d a b (by omega)
    refine jA ?_
    refine RG.ownK [(210,210),(201,201)] [(210,210),(201,201)] 201 201 (rowLen (hs.1)) (fun q=>m_insI l L hL n hl d hn a b (by omega) hb q) rfl rfl rfl rfl rfl rfl rfl rfl rfl rfl rfl rfl rfl ?_
    refine wH rfl ?_;refine jA ?_
    exact AW.ret (retM0 rfl (.inr rfl) (io_end rfl rfl rfl rfl rfl (rfl) (rowFit (hs.1.trans hn))))
  have h:¬b - a<=12:=by
    have:=of_decide_eq_false h0
    simp only [Int.ofNat_eq_natCast] at this
    omega
  rw [if_neg h] at hG
  refine jA ?_
  refine AW.cond rfl (fun h1=>?_) (fun h1=>?_)
  · have k : lim = 0 := by
      have:=of_decide_eq_true h1
      simp only [Int.ofNat_eq_natCast] at this
      omega
    rw [if_pos k] at hG
    subst hG
    have hs:=heap_sz (lt:=ltI l L) d a b
    refine jA ?_
    refine RG.ownK [(210,210),(201,201)] [(210,210),(201,201)] 201 201 (rowLen (hs)) (fun q=>m_heap l L hL n hl d hn a b (by omega) hb q) rfl rfl rfl rfl rfl rfl rfl rfl rfl rfl rfl rfl rfl ?_
    refine wH rfl ?_;refine jA ?_
    exact AW.ret (retM0 rfl (.inr rfl) (io_end rfl rfl rfl rfl rfl (rfl) (rowFit (hs.trans hn))))
  have k:¬lim=0:=by
    have:=of_decide_eq_false h1
    simp only [Int.ofNat_eq_natCast] at this
    omega
  rw [if_neg k] at hG
  have hF:=Go.Sort.rd_facts (limit:=lim) (wb:=wb) (wp:=wp) hS Go.Sort.partialInsertionSort_holds Go.Sort.reverseRange_holds (show a<b by omega) (show b<=d.size by omega) hB
  have hlm:=Go.Sort.rd_lim_le (lt:=ltI l L) (d:=d) (a:=a) (b:=b) (limit:=lim) (wb:=wb) (wp:=wp)
  obtain ⟨X,hX⟩:∃X,Go.Sort.rd (ltI l L) d a b lim wb wp=X:=⟨_,rfl⟩
  rw [hX] at hG hF hlm
  have q1:X.d1=(if (!wb)=true then Go.Sort.breakPatterns d a b else d):=by rw [<- hX];rfl
  have q2:X.lim=(if (!wb)=true then lim - 1 else lim):=by rw [<- hX];rfl
  have q0:X.c=Go.Sort.choosePivot (ltI l L) X.d1 a b:=by rw [<- hX];rfl
  have q3:X.d2=(if X.c.2 = .decreasing then Go.Sort.reverseRange X.d1 a b else X.d1):=by rw [<- hX];rfl
  have q4:X.pivot=(if X.c.2 = .decreasing then (b - 1) - (X.c.1 - a) else X.c.1):=by rw [<- hX];rfl
  have q5:X.hint=(if X.c.2 = .decreasing then Go.Sort.Hint.increasing else X.c.2):=by rw [<- hX];rfl
  have q6:X.pi=(if (wb && wp && decide (X.hint = .increasing))=true then Go.Sort.partialInsertionSort (ltI l L) X.d2 a b else (X.d2,false)):=by rw [<- hX];rfl
  clear hX
  obtain ⟨s1,B1,⟨c1,c2⟩,s2,B2,⟨v1,v2⟩,s3,B3⟩:=hF
  have s1:=s1.trans hn
  have s2:=s2.trans hn
  have s3:=s3.trans hn
  refine jA ?_
  refine AW.cutT (ι:=Unit) (fun _=>[(0,.row 201 0 0 n),(1,.i .i64 ((a:Nat):Int)),(2,.i .i64 ((b:Nat):Int)),(3,.i .i64 ((X.lim:Nat):Int)),(4,.fn 300 [.own 210 0 0] []),(10,.b wb),(11,.b wp),(12,.i .i64 ((b - a:Nat):Int))]) (fun _=>gl q [210,201] (ioB l n (X.d1))) (fun _=>True) ?_ fun _ _=>?_
  · refine AW.cond rfl (fun h2=>?_) (fun h2=>?_)
    · rw [if_pos h2] at q1 q2
      have wm:IntKind.i64.wrap (((lim:Nat):Int) - Int.ofNat 1)=((X.lim:Nat):Int):=by rw [q2,IntKind.wrap_i64];simp only [Int.ofNat_eq_natCast];omega
      have hbk:=m_break l L hL n hl d hn a b (by omega) hb h256
      rw [<- q1] at hbk
      refine jA ?_
      refine RG.ownK [(210,210),(201,201)] [(210,210),(201,201)] 201 201 (rowLen (s1.trans hn.symm)) (fun q=>hbk q) rfl rfl rfl rfl rfl rfl rfl rfl rfl rfl rfl rfl rfl ?_
      refine wH rfl ?_;refine jA ?_
      exact ⟨(),trivial,⟨Rn.rowIs rfl rfl rfl,Rn.is rfl rfl,Rn.is rfl rfl,Rn.is (congrArg (AV.i .i64) wm) rfl,Rn.fnO rfl rfl rfl,Rn.is rfl rfl,Rn.is rfl rfl,Rn.is rfl rfl,trivial⟩,io_end rfl rfl rfl rfl rfl (rfl) (rowFit s1)⟩
    · rw [if_neg (by rw [h2];decide)] at q1 q2
      rw [q1,q2]
      refine jA ?_
      exact ⟨(),trivial,⟨Rn.rowIs rfl rfl rfl,Rn.is rfl rfl,Rn.is rfl rfl,Rn.is rfl rfl,Rn.fnO rfl rfl rfl,Rn.is rfl rfl,Rn.is rfl rfl,Rn.is rfl rfl,trivial⟩,io_end rfl rfl rfl rfl rfl (rfl) (rowFit hn)⟩
  clear q1 q2
  have hpv:=m_pivot l L hL n hl X.d1 s1 a b (by omega) hb
  have e0:Go.Sort.choosePivot (ltI l L) X.d1 a b=((Go.Sort.rawPivot (ltI l L) X.d1 a b).1,Go.Sort.hintOf (Go.Sort.rawPivot (ltI l L) X.d1 a b).2):=Go.Sort.choosePivot_eq _ _ _ _
  have e1:(Go.Sort.rawPivot (ltI l L) X.d1 a b).1=X.c.1:=by rw [q0,e0]
  have e2:Go.Sort.hintOf (Go.Sort.rawPivot (ltI l L) X.d1 a b).2=X.c.2:=by rw [q0,e0]
  rw [e1,e2] at hpv
  clear e0 e1 e2 q0
  refine jA ?_
  refine RG.ownK [(210,210),(201,201)] [(210,210),(201,201)] 201 201 (rowLen (rfl)) (fun q=>hpv q) rfl rfl rfl rfl rfl rfl rfl rfl rfl rfl rfl rfl rfl ?_
  refine wH rfl ?_;refine jA ?_
  refine AW.cutT (ι:=Unit) (fun _=>[(0,.row 201 0 0 n),(1,.i .i64 ((a:Nat):Int)),(2,.i .i64 ((b:Nat):Int)),(3,.i .i64 ((X.lim:Nat):Int)),(4,.fn 300 [.own 210 0 0] []),(10,.b wb),(11,.b wp),(12,.i .i64 ((b - a:Nat):Int)),(13,.i .i64 ((X.pivot:Nat):Int)),(14,.i .i64 (Go.Sort.hintCode X.hint))]) (fun _=>gl q [210,201] (ioB l n (X.d2))) (fun _=>True) ?_ fun _ _=>?_
  · refine AW.cond rfl (fun h2=>?_) (fun h2=>?_)
    · have k2:X.c.2 = .decreasing:=of_decide_eq_true ((hint2 X.c.2).symm.trans h2)
      rw [if_pos k2] at q3 q4 q5
      have hrv:=m_revI l L hL n hl X.d1 s1 a b (by omega) hb
      rw [<- q3] at hrv
      have wa:IntKind.i64.wrap (((b:Nat):Int) - Int.ofNat 1)=((b - 1:Nat):Int):=by rw [IntKind.wrap_i64];simp only [Int.ofNat_eq_natCast];omega
      have wc:IntKind.i64.wrap (((X.c.1:Nat):Int) - ((a:Nat):Int))=((X.c.1 - a:Nat):Int):=by rw [IntKind.wrap_i64];omega
      have wd:IntKind.i64.wrap (((b - 1:Nat):Int) - ((X.c.1 - a:Nat):Int))=((X.pivot:Nat):Int):=by rw [q4,IntKind.wrap_i64];omega
      refine jA ?_
      refine RG.ownK [(210,210),(201,201)] [(210,210),(201,201)] 201 201 (rowLen (s2.trans s1.symm)) (fun q=>hrv q) rfl rfl rfl rfl rfl rfl rfl rfl rfl rfl rfl rfl rfl ?_
      refine wH rfl ?_;refine jB ?_
      refine AW.text ?_
      refine RG.runO ty_ok 0 [(63,.i .i64 ((b - 1:Nat):Int)),(66,.i .i64 ((X.c.1 - a:Nat):Int)),(67,.i .i64 ((X.pivot:Nat):Int))] 400 rfl jD ?_
      refine jA ?_
      exact ⟨(),trivial,⟨Rn.rowIs rfl rfl rfl,Rn.is rfl rfl,Rn.is rfl rfl,Rn.is rfl rfl,Rn.fnO rfl rfl rfl,Rn.is rfl rfl,Rn.is rfl rfl,Rn.is rfl rfl,Rn.is rfl rfl,Rn.is (by rw [q5];rfl) rfl,trivial⟩,io_end rfl rfl rfl rfl rfl (rfl) (rowFit s2)⟩
    · have k2:¬X.c.2 = .decreasing:=of_decide_eq_false ((hint2 X.c.2).symm.trans h2)
      rw [if_neg k2] at q3 q4 q5
      rw [q3,q4,q5]
      refine jA ?_
      exact ⟨(),trivial,⟨Rn.rowIs rfl rfl rfl,Rn.is rfl rfl,Rn.is rfl rfl,Rn.is rfl rfl,Rn.fnO rfl rfl rfl,Rn.is rfl rfl,Rn.is rfl rfl,Rn.is rfl rfl,Rn.is rfl rfl,Rn.is rfl rfl,trivial⟩,io_end rfl rfl rfl rfl rfl (rfl) (rowFit s1)⟩
  clear q3 q4 q5
  refine jB ?_
  refine AW.cutT (ι:=Unit) (fun _=>[(0,.row 201 0 0 n),(1,.i .i64 ((a:Nat):Int)),(2,.i .i64 ((b:Nat):Int)),(3,.i .i64 ((X.lim:Nat):Int)),(4,.fn 300 [.own 210 0 0] []),(10,.b wb),(11,.b wp),(12,.i .i64 ((b - a:Nat):Int)),(13,.i .i64 ((X.pivot:Nat):Int)),(14,.i .i64 (Go.Sort.hintCode X.hint)),(75,.b (wb && wp && decide (X.hint = .increasing)))]) (fun _=>gl q [210,201] (ioB l n (X.d2))) (fun _=>True) ?_ fun _ _=>?_
  · refine AW.text ?_
    cases wb
    · refine wH rfl ?_;refine jB ?_
      exact ⟨(),trivial,⟨Rn.rowIs rfl rfl rfl,Rn.is rfl rfl,Rn.is rfl rfl,Rn.is rfl rfl,Rn.fnO rfl rfl rfl,Rn.is rfl rfl,Rn.is rfl rfl,Rn.is rfl rfl,Rn.is rfl rfl,Rn.is rfl rfl,Rn.is rfl rfl,trivial⟩,io_end rfl rfl rfl rfl rfl (rfl) (rowFit s2)⟩
    cases wp
    · refine wH rfl ?_;refine jB ?_
      exact ⟨(),trivial,⟨Rn.rowIs rfl rfl rfl,Rn.is rfl rfl,Rn.is rfl rfl,Rn.is rfl rfl,Rn.fnO rfl rfl rfl,Rn.is rfl rfl,Rn.is rfl rfl,Rn.is rfl rfl,Rn.is rfl rfl,Rn.is rfl rfl,Rn.is rfl rfl,trivial⟩,io_end rfl rfl rfl rfl rfl (rfl) (rowFit s2)⟩
    refine wH rfl ?_;refine jB ?_
    exact ⟨(),trivial,⟨Rn.rowIs rfl rfl rfl,Rn.is rfl rfl,Rn.is rfl rfl,Rn.is rfl rfl,Rn.fnO rfl rfl rfl,Rn.is rfl rfl,Rn.is rfl rfl,Rn.is rfl rfl,Rn.is rfl rfl,Rn.is rfl rfl,Rn.is (congrArg AV.b (by rw [Bool.true_and,Bool.true_and];exact hint1 X.hint)) rfl,trivial⟩,io_end rfl rfl rfl rfl rfl (rfl) (rowFit s2)⟩
  refine jB ?_
  refine AW.cutT (ι:=Unit) (fun _=>[(0,.row 201 0 0 n),(1,.i .i64 ((a:Nat):Int)),(2,.i .i64 ((b:Nat):Int)),(3,.i .i64 ((X.lim:Nat):Int)),(4,.fn 300 [.own 210 0 0] []),(10,.b wb),(11,.b wp),(12,.i .i64 ((b - a:Nat):Int)),(13,.i .i64 ((X.pivot:Nat):Int))]) (fun _=>gl q [210,201] (ioB l n (X.pi.1))) (fun _=>X.pi.2=false) ?_ fun _ hpi=>?_
  · refine AW.cond rfl (fun h2=>?_) (fun h2=>?_)
    · rw [if_pos h2] at q6
      have hpn:=m_pins l L hL n hl X.d2 s2 a b (by omega) hb
      rw [<- q6] at hpn
      refine jA ?_
      refine RG.ownK [(210,210),(201,201)] [(210,210),(201,201)] 201 201 (rowLen (s3.trans s2.symm)) (fun q=>hpn q) rfl rfl rfl rfl rfl rfl rfl rfl rfl rfl rfl rfl rfl ?_
      refine wH rfl ?_;refine jA ?_
      refine AW.cond rfl (fun h3=>?_) (fun h3=>?_)
      · rw [if_pos h3] at hG
        subst hG
        exact AW.ret (retM0 rfl (.inr rfl) (io_end rfl rfl rfl rfl rfl (rfl) (rowFit s3)))
      · refine jA ?_
        exact ⟨(),h3,⟨Rn.rowIs rfl rfl rfl,Rn.is rfl rfl,Rn.is rfl rfl,Rn.is rfl rfl,Rn.fnO rfl rfl rfl,Rn.is rfl rfl,Rn.is rfl rfl,Rn.is rfl rfl,Rn.is rfl rfl,trivial⟩,io_end rfl rfl rfl rfl rfl (rfl) (rowFit s3)⟩
    · rw [if_neg (by rw [h2];decide)] at q6
      have q7:X.pi.1=X.d2:=by rw [q6]
      have q8:X.pi.2=false:=by rw [q6]
      rw [q7]
      refine jA ?_
      exact ⟨(),q8,⟨Rn.rowIs rfl rfl rfl,Rn.is rfl rfl,Rn.is rfl rfl,Rn.is rfl rfl,Rn.fnO rfl rfl rfl,Rn.is rfl rfl,Rn.is rfl rfl,Rn.is rfl rfl,Rn.is rfl rfl,trivial⟩,io_end rfl rfl rfl rfl rfl (rfl) (rowFit s2)⟩
  rw [if_neg (by rw [hpi];decide)] at hG
  clear q6 hpi
  refine jB ?_
  refine AW.cutT (ι:=Unit) (fun _=>[(0,.row 201 0 0 n),(1,.i .i64 ((a:Nat):Int)),(2,.i .i64 ((b:Nat):Int)),(3,.i .i64 ((X.lim:Nat):Int)),(4,.fn 300 [.own 210 0 0] []),(10,.b wb),(11,.b wp),(12,.i .i64 ((b - a:Nat):Int)),(13,.i .i64 ((X.pivot:Nat):Int)),(97,.b (decide (a>0) && !ltI l L X.pi.1[a - 1]! X.pi.1[X.pivot]!))]) (fun _=>gl q [210,201] (ioB l n (X.pi.1))) (fun _=>True) ?_ fun _ _=>?_
  · refine AW.draws mixed_ok ?_
    by_cases g1:(0:Int)<((a:Nat):Int)
    · refine RG.runO ty_ok 0 [(82,.b true)] 400 rfl jD ?_
      refine wH rfl ?_;refine RG.opS rfl (op_ixW (a - 1) numF ((X.pi.1).toList) (by omega) rfl (tab_ok ty_ok rfl) rfl (tab_ok ty_ok rfl) rfl rfl rfl jX) rfl ?_;refine RG.opS rfl (op_ldW (a - 1) numF (X.pi.1) (by omega) rfl (tab_ok ty_ok rfl) rfl rfl rfl) rfl ?_
      refine wH rfl ?_;refine RG.opS rfl (op_ixW (X.pivot) numF ((X.pi.1).toList) (by omega) rfl (tab_ok ty_ok rfl) rfl (tab_ok ty_ok rfl) rfl rfl rfl jX) rfl ?_;refine RG.opS rfl (op_ldW (X.pivot) numF (X.pi.1) (by omega) rfl (tab_ok ty_ok rfl) rfl rfl rfl) rfl ?_
      refine wH rfl ?_
      refine RG.ownK [(210,210),(201,201)] [(210,210),(201,201)] 201 201 rfl (fun q=>m_compare l L hL n (X.pi.1) (X.pi.1[a - 1]!) (X.pi.1[X.pivot]!) q (rowFit (by assumption))) rfl rfl rfl rfl rfl rfl rfl rfl rfl rfl rfl rfl rfl ?_
      refine wH rfl ?_;refine jB ?_
      exact ⟨(),trivial,⟨Rn.rowIs rfl rfl rfl,Rn.is rfl rfl,Rn.is rfl rfl,Rn.is rfl rfl,Rn.fnO rfl rfl rfl,Rn.is rfl rfl,Rn.is rfl rfl,Rn.is rfl rfl,Rn.is rfl rfl,Rn.is (congrArg AV.b (by rw [decide_eq_true (show a>0 by omega),Bool.true_and];rfl)) rfl,trivial⟩,io_end rfl rfl rfl rfl rfl (rfl) (rowFit s3)⟩
    · refine RG.runO ty_ok 0 [(82,.b false)] 400 rfl jD ?_
      refine jB ?_
      exact ⟨(),trivial,⟨Rn.rowIs rfl rfl rfl,Rn.is rfl rfl,Rn.is rfl rfl,Rn.is rfl rfl,Rn.fnO rfl rfl rfl,Rn.is rfl rfl,Rn.is rfl rfl,Rn.is rfl rfl,Rn.is rfl rfl,Rn.is (congrArg AV.b (by rw [decide_eq_false (show ¬a>0 by omega),Bool.false_and])) rfl,trivial⟩,io_end rfl rfl rfl rfl rfl (rfl) (rowFit s3)⟩
  cases hcb:(decide (a>0) && !ltI l L X.pi.1[a - 1]! X.pi.1[X.pivot]!)
  rotate_left
  · rw [if_pos hcb] at hG
    rw [Bool.and_eq_true,decide_eq_true_eq,Bool.not_eq_true'] at hcb
    have hpe:=m_partEq l L hL n hl X.pi.1 s3 a b X.pivot v1 v2 hb
    obtain ⟨⟨mid,d4⟩,hx⟩:∃z,Go.Sort.partitionEqual (ltI l L) X.pi.1 a b X.pivot=z:=⟨_,rfl⟩
    obtain ⟨g1,g2,g3,g4,_⟩:=Go.Sort.round_eq hS (Go.Sort.partitionEqual_holds _) hcb.1 v1 v2 (by omega) B3 hcb.2 hx
    rw [hx] at hpe hG
    simp only at hpe
    rw [if_pos ⟨g1,g2⟩] at hG
    simp only at hG
    have hn4:=g3.trans s3
    refine AW.cond rfl (fun _=>?_) (fun h1=>by cases h1)
    refine jA ?_
    refine RG.ownK [(210,210),(201,201)] [(210,210),(201,201)] 201 201 (rowLen (g3)) (fun q=>hpe q) rfl rfl rfl rfl rfl rfl rfl rfl rfl rfl rfl rfl rfl ?_
    refine wH rfl ?_;refine jA ?_
    refine AW.exit ?_;first | (refine Eq.mpr (if_pos rfl) ?_) | (refine Eq.mpr (if_neg (by decide)) ?_;refine Eq.mpr (if_pos rfl) ?_) | (refine Eq.mpr (if_neg (by decide)) ?_;refine Eq.mpr (if_neg (by decide)) ?_;refine Eq.mpr (if_pos rfl) ?_);refine jA ?_
    exact ⟨((mid,b,X.lim),(wb,wp),d4),⟨⟨⟨g2,hb,by show b - mid<=f;omega,by show X.lim<=1000;omega,hn4,g4⟩,hG⟩,by show b - mid<b - a;omega⟩,⟨Rn.rowIs rfl rfl rfl,Rn.is rfl rfl,Rn.is rfl rfl,Rn.is rfl rfl,Rn.fnO rfl rfl rfl,Rn.is rfl rfl,Rn.is rfl rfl,trivial⟩,io_end rfl rfl rfl rfl rfl (rfl) (rowFit hn4)⟩
  rw [if_neg (by rw [hcb];decide)] at hG
  clear hcb
  have hpt:=m_part l L hL n hl X.pi.1 s3 a b X.pivot v1 v2 hb
  obtain ⟨⟨mid,ap,d4⟩,hx⟩:∃z,Go.Sort.partition (ltI l L) X.pi.1 a b X.pivot=z:=⟨_,rfl⟩
  obtain ⟨g1,g2,g3,g4,g5,g6,g7⟩:=Go.Sort.round_part hS (Go.Sort.partition_holds _) v1 v2 (by omega) B3 hx
  rw [hx] at hpt hG
  simp only at hpt hG
  rw [if_pos ⟨g1,g2⟩] at hG
  have hn4:=g3.trans s3
  have wL:IntKind.i64.wrap (((mid:Nat):Int) - ((a:Nat):Int))=((mid - a:Nat):Int):=by rw [IntKind.wrap_i64];omega
  have wR:IntKind.i64.wrap (((b:Nat):Int) - ((mid:Nat):Int))=((b - mid:Nat):Int):=by rw [IntKind.wrap_i64];omega
  have w8:IntKind.i64.wrap (Int.tdiv ((b - a:Nat):Int) (Int.ofNat 8))=(((b - a) / 8:Nat):Int):=by
    rw [Int.tdiv_eq_ediv_of_nonneg (by omega),IntKind.wrap_i64];simp only [Int.ofNat_eq_natCast];omega
  have wI:IntKind.i64.wrap (((mid:Nat):Int)+Int.ofNat 1)=((mid+1:Nat):Int):=by rw [IntKind.wrap_i64];simp only [Int.ofNat_eq_natCast];omega
  refine AW.cond rfl (fun h1=>by cases h1) (fun _=>?_)
  refine jA ?_
  refine RG.ownK [(210,210),(201,201)] [(210,210),(201,201)] 201 201 (rowLen (g3)) (fun q=>hpt q) rfl rfl rfl rfl rfl rfl rfl rfl rfl rfl rfl rfl rfl ?_
  refine wH rfl ?_;refine jB ?_;refine wF ?_;refine wH rfl ?_;refine jB ?_
  refine AW.text ?_
  refine RG.runO ty_ok 0 [(117,.i .i64 ((mid - a:Nat):Int)),(120,.i .i64 ((b - mid:Nat):Int))] 400 rfl jD ?_
  refine jB ?_
  refine AW.text ?_
  refine RG.runO ty_ok 0 [(122,.i .i64 (((b - a) / 8:Nat):Int))] 400 rfl jD ?_
  refine jA ?_
  refine AW.cond rfl (fun h2=>?_) (fun h2=>?_)
  · have k2 : mid - a < b - mid := by
      have:=of_decide_eq_true h2
      omega
    rw [if_pos k2] at hG
    have ih:=IH (mid - a) (by omega) a mid X.lim d4 hn4 g1 (by omega) (Nat.le_refl _) (by omega) g4
    obtain ⟨l1,l2⟩:=Go.Sort.pdq_sorts (ltI l L) hS d4 a mid X.lim true true g1 (by omega) g4
    obtain ⟨l3,_⟩:=g6 _ l1 l2
    have hn5:=l1.1.trans hn4
    refine jA ?_
    refine RG.ownK [(210,210),(201,201)] [(210,210),(201,201)] 201 201 (rowLen (l1.1)) (fun q=>ih q) rfl rfl rfl rfl rfl rfl rfl rfl rfl rfl rfl rfl rfl ?_
    refine wH rfl ?_;refine jA ?_
    exact ⟨((mid+1,b,X.lim),(decide (mid - a>=(b - a) / 8),ap),Go.Sort.pdq (ltI l L) d4 a mid X.lim true true),⟨⟨⟨by show mid+1<=b;omega,hb,by show b - (mid+1)<=f;omega,by show X.lim<=1000;omega,hn5,l3⟩,hG⟩,by show b - (mid+1)<b - a;omega⟩,⟨Rn.rowIs rfl rfl rfl,Rn.is (congrArg (AV.i .i64) wI) rfl,Rn.is rfl rfl,Rn.is rfl rfl,Rn.fnO rfl rfl rfl,Rn.is (congrArg AV.b (decide_eq_decide.2 (by omega))) rfl,Rn.is rfl rfl,trivial⟩,io_end rfl rfl rfl rfl rfl (rfl) (rowFit hn5)⟩
  · have k2 : ¬ mid - a < b - mid := by
      have:=of_decide_eq_false h2
      omega
    rw [if_neg k2] at hG
    have ih:=IH (b - (mid+1)) (by omega) (mid+1) b X.lim d4 hn4 (by omega) hb (Nat.le_refl _) (by omega) g5
    obtain ⟨l1,l2⟩:=Go.Sort.pdq_sorts (ltI l L) hS d4 (mid+1) b X.lim true true (by omega) (by omega) g5
    obtain ⟨l3,_⟩:=g7 _ l1 l2
    have hn5:=l1.1.trans hn4
    refine jB ?_;refine wF ?_;refine wH rfl ?_;refine jB ?_
    refine AW.text ?_
    refine RG.runO ty_ok 0 [(142,.i .i64 ((mid+1:Nat):Int))] 400 rfl jD ?_
    refine RG.ownK [(210,210),(201,201)] [(210,210),(201,201)] 201 201 (rowLen (l1.1)) (fun q=>ih q) rfl rfl rfl rfl rfl rfl rfl rfl rfl rfl rfl rfl rfl ?_
    refine wH rfl ?_;refine jA ?_
    exact ⟨((a,mid,X.lim),(decide (b - mid>=(b - a) / 8),ap),Go.Sort.pdq (ltI l L) d4 (mid+1) b X.lim true true),⟨⟨⟨g1,by show mid<=n;omega,by show mid - a<=f;omega,by show X.lim<=1000;omega,hn5,l3⟩,hG⟩,by show mid - a<b - a;omega⟩,⟨Rn.rowIs rfl rfl rfl,Rn.is rfl rfl,Rn.is rfl rfl,Rn.is rfl rfl,Rn.fnO rfl rfl rfl,Rn.is (congrArg AV.b (decide_eq_decide.2 (by omega))) rfl,Rn.is rfl rfl,trivial⟩,io_end rfl rfl rfl rfl rfl (rfl) (rowFit hn5)⟩
end Go.Proofs.YtoaibdbehlcnfaaGreat.Sm
end
section
namespace Go.Proofs.YtoaibdbehlcnfaaGreat.Sm
open Go.RowKit
open Go.Sort (swp)
open Go.Sort (SWO Below PermIn SortedIn)
theorem ltI_iff {l:List Rl} {L:Nat} {x y:Fin (L+1)}:ltI l L x y=true↔prioAt l y.1<prioAt l x.1\/(prioAt l y.1=prioAt l x.1/\x.1<y.1):=by
  rw [ltI,decide_eq_true_eq,cmpR]
  generalize prioAt l y.1=p
  generalize prioAt l x.1=r
  by_cases h1:p<r
  · have e:cmpI p r = -1:=by rw [cmpI,if_pos h1]
    rw [e]
    exact ⟨fun _=>.inl h1,fun _=>by rw [orI,if_pos (by decide)];decide⟩
  by_cases h2:r<p
  · have e:cmpI p r=1:=by rw [cmpI,if_neg h1,if_pos h2]
    rw [e]
    exact ⟨fun h=>absurd h (by simp [orI]),fun h=>by omega⟩
  have e:cmpI p r=0:=by rw [cmpI,if_neg h1,if_neg h2]
  rw [e]
  have hpr:p=r:=by omega
  by_cases h3:x.1<y.1
  · have e:cmpI ((x.1:Nat):Int) ((y.1:Nat):Int) = -1:=by rw [cmpI,if_pos (by omega)]
    rw [e]
    exact ⟨fun _=>.inr ⟨hpr,h3⟩,fun _=>by decide⟩
  by_cases h4:y.1<x.1
  · have e:cmpI ((x.1:Nat):Int) ((y.1:Nat):Int)=1:=by rw [cmpI,if_neg (by omega),if_pos (by omega)]
    rw [e]
    exact ⟨fun h=>absurd h (by simp [orI]),fun h=>by omega⟩
  have e:cmpI ((x.1:Nat):Int) ((y.1:Nat):Int)=0:=by rw [cmpI,if_neg (by omega),if_neg (by omega)]
  rw [e]
  exact ⟨fun h=>absurd h (by simp [orI]),fun h=>by omega⟩
theorem ltI_no {l:List Rl} {L:Nat} {x y:Fin (L+1)}:ltI l L x y=false↔¬(prioAt l y.1<prioAt l x.1\/(prioAt l y.1=prioAt l x.1/\x.1<y.1)):=by
 rw [<- ltI_iff,Bool.not_eq_true]
theorem swo_ltI (l:List Rl) (L:Nat):SWO (ltI l L) where
 irrefl x:=by rw [ltI_no];omega
 trans x y z h1 h2:=by rw [ltI_iff] at *;omega
 ntrans x y z h1 h2:=by rw [ltI_no] at *;omega
theorem m_sortI (l:List Rl) (L:Nat) (hL:l.length=L+1) (n:Nat) (hl:n<=100000) (h256:n<256) (d:Array (Fin (L+1))) (hn:d.size=n) (q:Nat->Option (Nat × Nat)):MDoes Tryz.prog 299 [.row 201 0 0 n,.fn 300 [.own 210 0 0] []] (gl q [210,201] (ioB l n (d))) (.tup []) (gl q [210,201] (ioB l n (Go.Sort.pdq (ltI l L) d 0 n (Go.Sort.bitsLen n) true true))):=by
 refine MDoes.of_body Tryz.func299 rfl (by kernel_rfl) rfl rfl ?_
 have hr:=d_LenX (ofI64 ((n:Nat):Int)) (by rw [ofI_len h256];exact h256)
 rw [ofI_len h256] at hr
 have h8:=bitsLen_8 h256
 have hp:=m_pdq l L hL n hl h256 (swo_ltI l L) n 0 n (Go.Sort.bitsLen n) d hn (Nat.zero_le _) (Nat.le_refl _) (Nat.sub_le _ _) (by omega) (.inl rfl)
 obtain ⟨l1,_⟩:=Go.Sort.pdq_sorts (ltI l L) (swo_ltI l L) d 0 n (Go.Sort.bitsLen n) true true (Nat.zero_le _) (by omega) (.inl rfl)
 refine jA ?_
 refine RG.callS rfl rfl rfl rfl rfl hr rfl rfl ?_
 refine wH rfl ?_
 refine RG.ownK [(210,210),(201,201)] [(210,210),(201,201)] 201 201 (rowLen (l1.1)) (fun q=>hp q) rfl rfl rfl rfl rfl rfl rfl rfl rfl rfl rfl rfl rfl ?_
 refine wH rfl ?_;refine jA ?_
 exact retM0 rfl (.inl rfl) (io_end rfl rfl rfl rfl rfl (rfl) (rowFit (l1.1.trans hn)))
def idsA (L:Nat):Array (Fin (L+1)):=Array.ofFn id
theorem idsA_sz (L:Nat):(idsA L).size=L+1:=by simp [idsA]
theorem idsA_val (L:Nat):(idsA L).toList.map (fun x=>x.1)=List.range (L+1):=by
 apply List.ext_getElem
 ·simp [idsA]
 ·intro i h1 h2
  rw [List.getElem_map,Array.getElem_toList]
  simp only [idsA,Array.getElem_ofFn,List.getElem_range]
  rfl
theorem idsA_row (L:Nat):(List.range (L+1)).map numN=(idsA L).toList.map numF:=by
 rw [<- idsA_val,List.map_map];rfl
theorem extract_all {α:Type} (d:Array α) {n:Nat} (h:d.size=n):d.extract 0 n=d:=by
 subst h
 simp
theorem rowAllF {L:Nat} {D:Array (Fin (L+1))} (h:D.size=L+1):AV.sl (((D.toList.map numF).drop 0).take (L+1))=AV.sl (D.toList.map numF):=by
 rw [List.drop_zero,List.take_of_length_le (by rw [List.length_map,Array.length_toList,h];exact Nat.le_refl _)]
theorem look_any (l:List Rl) (hl:l.length<256):LookOk l:=by
  cases hlen:l.length with
  | zero =>
    obtain rfl:l=[]:=List.length_eq_zero_iff.1 hlen
    exact look_falls (fun k x y h=>by simp at h) (by decide)
  | succ L =>
  have hS:=swo_ltI l L
  obtain ⟨l1,l2⟩:=Go.Sort.pdq_sorts (ltI l L) hS (idsA L) 0 (L+1) (Go.Sort.bitsLen (L+1)) true true (Nat.zero_le _) (by rw [idsA_sz];exact Nat.le_refl _) (.inl rfl)
  have hm:=m_sortI l L hlen (L+1) (by omega) (by omega) (idsA L) (idsA_sz L)
  generalize Go.Sort.pdq (ltI l L) (idsA L) 0 (L+1) (Go.Sort.bitsLen (L+1)) true true=D at l1 l2 hm
  have hD:D.size=L+1:=l1.1.trans (idsA_sz L)
  refine ⟨D.toList.map (fun x=>x.1),?_,?_,?_⟩
  · have h3:=l1.2.2
    rw [extract_all _ hD,extract_all _ (idsA_sz L)] at h3
    rw [hlen,<- idsA_val]
    exact h3.map _
  · rw [List.pairwise_iff_getElem]
    intro i j hi hj hij
    rw [List.length_map,Array.length_toList] at hi hj
    have h4:=l2 i j (Nat.zero_le _) hij (by omega)
    rw [ltI_no] at h4
    rw [List.getElem_map,List.getElem_map,Array.getElem_toList,Array.getElem_toList,<- getElem!_pos D i hi,<- getElem!_pos D j hj]
    generalize D[i]! = x at h4
    generalize D[j]! = y at h4
    show prioAt l y.1<prioAt l x.1\/(prioAt l y.1=prioAt l x.1/\x.1<=y.1)
    omega
  rw [show (D.toList.map (fun x=>x.1)).map numN=D.toList.map numF by rw [List.map_map];rfl]
  refine PDoes.of_bodyN Tryz.func285 rfl (by kernel_rfl) rfl rfl ?_
  refine jB ?_;refine wF ?_;refine wH rfl ?_;refine jB ?_;refine wF ?_;refine wH rfl ?_;refine jB ?_
  refine AW.nilRow 40 0 3 1 [(0,.sl (l.map cRl)),(3,.own 7 0 0)] [(7,⟨0,some (.box 368 [.sl (l.map cRl),.row 40 0 0 0])⟩),(40,⟨0,some (.row 3 1 [])⟩)] ⟨.rn (Rn.is rfl rfl),.rn (Rn.ownIs rfl rfl rfl),trivial⟩ ⟨.boxL rfl ⟨RnN.is rfl rfl,.nil rfl,trivial⟩ rfl,.old (.row rfl rfl),trivial⟩ ?_
  refine jA ?_
  have hmx:l.length<=9223372036854775807:=by omega
  refine AW.loopL (ι:=Nat × List Nat) (fun i=>[(3,.own 7 0 0),(8,.sl (l.map cRl)),(9,.i .i64 (l.map cRl).length),(10,.i .i64 (i.1:Nat))]) (fun i=>[(7,⟨0,some (.box 368 [.sl (l.map cRl),.row 40 0 0 (i.2.map numN).length])⟩),(40,⟨0,some (.row 3 1 (i.2.map numN))⟩)]) (fun i=>i.1<=l.length/\i.2=List.range i.1) (fun i=>l.length - i.1) (0,[]) ⟨Nat.zero_le _,rfl⟩ jW ⟨.boxL rfl ⟨Rn.is rfl rfl,Rn.rowIs rfl rfl rfl,trivial⟩ rfl,.row rfl rfl,trivial⟩ fun i hi=>?_
  obtain ⟨k,out⟩:=i
  obtain ⟨hk,ho⟩:=hi
  simp only at hk ho
  refine jA ?_
  refine AW.cond rfl (fun h0=>?_) (fun h0=>?_)
  · have h:k<l.length:=by simpa using h0
    have hL:out.length<=100000000:=by rw [ho,List.length_range];omega
    refine jA ?_
    refine RG.opS rfl (op_app1 numN out k hL rfl rfl rfl rfl (tab_ok ty_ok rfl) rfl (tab_ok ty_ok rfl) rfl rfl ⟨_,rfl,rfl⟩ rfl rfl) rfl ?_;refine wH rfl ?_;refine jA ?_
    exact ⟨(k+1,out++[k]),⟨⟨h,by show out++[k]=List.range (k+1);rw [ho,List.range_succ]⟩,by show l.length - (k+1)<l.length - k;omega⟩,jV,⟨.boxL rfl ⟨Rn.is rfl rfl,Rn.rowIs rfl rfl rfl,trivial⟩ rfl,.row rfl rfl,trivial⟩⟩
  · have h:¬k<l.length:=by simpa using h0
    obtain rfl:k=l.length:=by omega
    rw [hlen] at ho
    have hrow:out.map numN=(idsA L).toList.map numF:=by rw [ho,idsA_row]
    have hlo:(out.map numN).length=L+1:=by rw [hrow,List.length_map,Array.length_toList,idsA_sz]
    refine AW.only [(3,.own 7 0 0)] [(7,⟨0,some (.box 368 [.sl (l.map cRl),.row 40 0 0 (L+1)])⟩),(40,⟨0,some (.row 3 1 ((idsA L).toList.map numF))⟩)] ⟨Rn.ownIs rfl rfl rfl,trivial⟩ ⟨.boxL rfl ⟨Rn.is rfl rfl,Rn.rowTIs (by rw [<- hlo]) rfl rfl (rowFit (idsA_sz L)),trivial⟩ rfl,.row rfl hrow,trivial⟩ ?_
    refine jA ?_
    refine AW.exit ?_;refine Eq.mpr (if_pos rfl) ?_;refine jA ?_
    refine RG.ownK [(7,210),(40,201)] [(210,7),(201,40)] 40 201 (rowLen l1.1) hm rfl rfl rfl rfl rfl rfl rfl rfl rfl rfl rfl rfl rfl ?_
    refine wH rfl ?_;refine jA ?_
    refine AW.ret (retQA ty_ok rfl rfl rfl ?_)
    exact rowAllF hD
end Go.Proofs.YtoaibdbehlcnfaaGreat.Sm
end
section
namespace Go.Proofs.YtoaibdbehlcnfaaGreat.Sm
open Go.RowKit Go.WideShapes Go.ChangeShapes Go.Deep
section
variable {H : Type} {P : Program}
theorem weights_all {e:TypeId}:∀{ds:List (DataW H)} {d:DataW H},d∈ds->∀n∈d.weights P e,n∈DataW.weightsAll P e ds
 | d0::ds,d,hd,n,hn=>by
  simp only [DataW.weightsAll,List.mem_append]
  rcases List.mem_cons.1 hd with rfl | hd
  ·exact .inl hn
  ·exact .inr (weights_all hd n hn)
end
def RdZ {α:Type} (P:Program) (t:TypeId) (R:Rep α) (Q:α->Prop):Prop :=
 ∀(H:Type) (enc:TypeId × Value->H) (w:World) (base:Nat) (spare:Nat->Bool) (held:Bool) (fuel:Nat) (cs:List Value) (x:DataW H × List MemPlace),
  DataW.trod enc P w base spare held fuel t cs=some x->(∀k∈x.1.weights P t,k<=reachBytes)->∃a:α,R.rel w (fun b=>b<w.heap.size) a cs/\Q a
theorem all2_and {α:Type} {r:α->List Value->Prop} {Q:α->Prop}:∀{xs:List α} {cs:List Value},All2 (fun a c=>r a c/\Q a) xs cs->All2 r xs cs/\∀a∈xs,Q a
 | [],cs,h=>⟨h,fun a ha=>by cases ha⟩
 | x::xs,cs,⟨c1,c2,h1,h2,h3⟩=>by
  obtain ⟨g1,g2⟩:=all2_and h3
  refine ⟨⟨c1,c2,h1,h2.1,g1⟩,fun a ha=>?_⟩
  rcases List.mem_cons.1 ha with rfl | ha
  ·exact h2.2
  ·exact g2 a ha
theorem RdZ.slice {α:Type} {P:Program} {t e:TypeId} {R:Rep α} {Q:α->Prop} (hR:RdZ P e R Q) (ht:P.underlying t=some (.slice e)) (hn:P.cellsOf e=R.n) (h0:0<R.n) (hb:0<P.bytesOf e):RdZ P t R.slice (fun l=>l.length<=reachBytes/\∀a∈l,Q a):=by
  intro H enc w base spare held fuel cs x hx hz
  rcases open_slice ht hx with ⟨rfl,_⟩ | ⟨a,len,cap,m,n,D,Pl,rfl,_,hlc,hcm,hm,rfl,hel⟩
  · exact ⟨[],⟨_,rfl,SliceAt.nil _ _ _⟩,Nat.zero_le _,fun a ha=>by cases ha⟩
  · have hlm:len<=m:=by rw [hm];split <;> omega
    simp only [DataW.weights,ht] at hz
    have hlen:len<=reachBytes:=by
      have h1:=hz _ List.mem_cons_self
      rw [List.length_map,List.length_range] at h1
      have h2:len*1<=(len+(List.map (fun j=>D (len+j)) (List.range (m - len))).length)*P.bytesOf e:=Nat.mul_le_mul (Nat.le_add_right _ _) hb
      omega
    have hzi:∀i,i<len->∀k∈(D i).weights P e,k<=reachBytes:=fun i hi k hk=>by
      refine hz k (List.mem_cons_of_mem _ (List.mem_append_left _ ?_))
      exact weights_all (List.mem_map_of_mem (List.mem_range.2 hi)) k hk
    by_cases hp:0<len
    · have hspot : a = ⟨a.block, a.off, none⟩ /\ a.block < w.heap.size := by
        obtain ⟨cs',hc,_⟩:=hel 0 (by omega)
        obtain ⟨_,hl,hat⟩:=World.cells?_some hc
        have h1:=hat 0 (by rw [hn];exact h0)
        have e:(a.add (0*P.cellsOf e)).add 0=a:=by simp [Addr.add]
        rw [e,List.getElem?_eq_getElem (by rw [hl,hn];exact h0)] at h1
        refine ⟨?_,World.block_lt_of_cell? w a h1⟩
        unfold World.cell? at h1
        split at h1
        · split at h1
          · cases h1
          · rename_i hs
            obtain ⟨ab,ao,asp⟩:=a
            cases asp with
            | none=>rfl
            | some k=>simp at hs
        · cases h1
      obtain ⟨xs,cells,h1,h2,h3⟩:=all2_collect (r:=fun a c=>R.rel w (fun b=>b<w.heap.size) a c/\Q a) (n:=R.n) (fun _ _ h=>R.len h.1) w a.block a.off len fun i hi=>by
        obtain ⟨cs',hc,ht'⟩:=hel i (by omega)
        obtain ⟨y,hy,hq⟩:=hR H enc w base spare held n cs' _ ht' (hzi i hi)
        obtain ⟨_,hl,hat⟩:=World.cells?_some hc
        refine ⟨y,cs',⟨hy,hq⟩,fun j u hu=>?_⟩
        have hj:j<P.cellsOf e:=by have:=(List.getElem?_eq_some_iff.1 hu).1;omega
        have:=hat j hj
        rw [hu,hn,hspot.1] at this
        rw [show ((⟨a.block,a.off,none⟩:Addr).add (i*R.n)).add j=⟨a.block,a.off+(i*R.n+j),none⟩ by
          unfold Addr.add
          by_cases h1:i*R.n=0 <;> by_cases h2:j=0 <;> simp [h1,h2,Nat.add_assoc]] at this
        exact this
      obtain ⟨g1,g2⟩:=all2_and h2
      exact ⟨xs,⟨_,rfl,some a,cap,by rw [h1],by omega,hcm,fun _=>⟨a.block,a.off,by rw [<- hspot.1],hspot.2,hspot.2,cells,g1,h3⟩⟩,by rw [h1];exact hlen,g2⟩
    · obtain rfl:len=0:=by omega
      exact ⟨[],⟨_,rfl,some a,cap,rfl,Nat.zero_le _,hcm,fun h=>absurd h (Nat.lt_irrefl _)⟩,Nat.zero_le _,fun a ha=>by cases ha⟩
structure RdA {α:Type} (P:Program) (t:TypeId) (n:Nat) (enc:α->List AV) (Q:α->Prop):Prop where
 len:∀a,(enc a).length=n
 one:∀a,∀y∈enc a,y.one=true
 read:∀(H:Type) (e:TypeId × Value->H) (w:World) (base:Nat) (spare:Nat->Bool) (held:Bool) (fuel:Nat) (cs:List Value) (x:DataW H × List MemPlace),
  DataW.trod e P w base spare held fuel t cs=some x->(∀k∈x.1.weights P t,k<=reachBytes)->∃a:α,PWs w (fun b=>b<w.heap.size) (enc a) cs/\Q a
section
variable {P : Program} {t : TypeId}
theorem RdA.of {α:Type} {n:Nat} {enc:α->List AV} (h:ReadA P t n enc):RdA P t n enc (fun _=>True):=⟨h.len,h.one,fun H e w base spare held fuel cs x hx _=>by
 obtain ⟨a,ha⟩:=h.read H e w base spare held fuel cs x hx
 exact ⟨a,ha,trivial⟩⟩
theorem RdA.slice {α:Type} {e:TypeId} {n:Nat} {enc:α->List AV} {Q:α->Prop} (h:RdA P e n enc Q) (ht:P.underlying t=some (.slice e)) (hn:P.cellsOf e=n) (h0:0<n) (hb:0<P.bytesOf e):RdA P t 1 (fun l:List α=>[.sl (l.map enc)]) (fun l=>l.length<=reachBytes/\∀a∈l,Q a):=by
 have E:=(avR_enc h.len h.one).slice h0
 refine ⟨E.len,E.one,fun H e w base spare held fuel cs x hx hz=>?_⟩
 have hR:RdZ P _ (avR n enc h.len h.one) Q:=fun H e w base spare held fuel cs x hx hz=>h.read H e w base spare held fuel cs x hx hz
 obtain ⟨a,ha,hq⟩:=hR.slice ht hn h0 hb H e w base spare held fuel cs x hx hz
 exact ⟨a,⟨by rw [(avR n enc h.len h.one).slice.len ha,E.len],fun j y hj=>E.one a y (List.mem_of_getElem? hj),fun j y v hj hv=>E.to ha j y v hj hv⟩,hq⟩
theorem RdA.part {α:Type} {ty n off:Nat} {enc:α->List AV} {Q:α->Prop} (h:RdA P ty n enc Q) {H:Type} {e:TypeId × Value->H} {w:World} {base:Nat} {spare:Nat->Bool} {held:Bool} {cs:List Value} {m:Nat}
  (hp:∃y,DataW.trod e P w base spare held m ty ((cs.drop off).take n)=some y/\∀k∈y.1.weights P ty,k<=reachBytes):∃a:α,PWs w (fun b=>b<w.heap.size) (enc a) ((cs.drop off).take n)/\Q a:=by
 obtain ⟨y,hy,hz⟩:=hp
 exact h.read H e w base spare held m _ y hy hz
theorem struct_partZ {fs:Array Field} (ht:P.underlying t=some (.struct fs)) {H:Type} {enc:TypeId × Value->H} {w:World} {base:Nat} {spare:Nat->Bool} {held:Bool} {fuel:Nat} {cs:List Value} {x:DataW H × List MemPlace}
  (hx:DataW.trod enc P w base spare held fuel t cs=some x) (hz:∀k∈x.1.weights P t,k<=reachBytes):∃m,cs.length=P.cellsOf t/\∀(j ty off n:Nat),(fs[j]?).map (fun f=>(f.type,f.offset))=some (ty,off)->P.cellsOf ty=n ->
   ∃y,DataW.trod enc P w base spare held m ty ((cs.drop off).take n)=some y/\∀k∈y.1.weights P ty,k<=reachBytes:=by
 obtain ⟨xs,n,_,rfl,hl,hxs,hf⟩:=DataW.trod_struct ht hx
 simp only [DataW.weights,ht] at hz
 refine ⟨n,hl,fun j ty off k hj hk=>?_⟩
 cases hfj:fs[j]? with
 | none=>rw [hfj] at hj;cases hj
 | some f =>
  rw [hfj] at hj
  simp only [Option.map_some,Option.some.injEq,Prod.mk.injEq] at hj
  have h:=hf j f hfj
  rw [hj.1,hj.2,hk] at h
  have hlt:j<xs.length:=by rw [hxs];exact (Array.getElem?_eq_some_iff.1 hfj).1
  refine ⟨xs[j],by rw [h,List.getElem?_eq_getElem hlt],fun n' hn'=>hz n' ?_⟩
  refine DataW.weights_mem_each (j:=j) (t:=ty) (d:=xs[j].1) ?_ ?_ n' hn'
  ·rw [List.getElem?_map,Array.getElem?_toList,hfj,Option.map_some,hj.1]
  ·rw [List.getElem?_map,List.getElem?_eq_getElem hlt];rfl
variable {H : Type} {e : TypeId × Value -> H} {W : World} {base b0 : Nat} {spare : Nat -> Bool} {held : Bool} {v : Value} {d : DataW H} {p : List MemPlace}
theorem RdA.arg_struct {α:Type} {n:Nat} {enc:α->List AV} {Q:α->Prop} (h:RdA P t n enc Q) {fs:Array Field} (ht:P.underlying t=some (.struct fs)) {ts:List TypeId} {ds:List (DataW H)} (hsz:(DataW.weightsEach P ts ds).all (·<=reachBytes)=true) (j:Nat) (hj:ts[j]?=some t) (hdj:ds[j]?=some d) (ho:Value.okWide P W .any b0 t v) (hd:DataW.Trod e P W base spare held t v d p) :
  ∃a:α,PRel W (fun b=>b<W.heap.size) (.agg (enc a)) v/\Q a:=by
 obtain ⟨cs,rfl,hs⟩:=okWide_struct ht ho
 obtain ⟨fuel,hf⟩:=hd
 obtain ⟨a,ha,hq⟩:=h.read H e W base spare held fuel _ _ hf fun k hk=>by
  have:=List.all_eq_true.1 hsz _ (DataW.weights_mem_each hj hdj k hk)
  simpa using this
 have hc:(Value.cells (.agg cs)).toList=cs.toList:=by simp [Value.cells]
 rw [hc] at ha
 refine ⟨a,?_,hq⟩
 have:=PRel.agg (W:=W) (F:=fun b=>b<W.heap.size) (enc a) cs.toList ha.len ha.one ha.rel
 simpa using this
end
def Cf.Lens (c:Cf):Prop:=∀t∈c.tables,∀l∈t,l.length<=reachBytes
theorem rz_Rls:RdA Tryz.prog 48 1 (fun l:List (Rl)=>[.sl (l.map cRl)]) (fun l=>l.length<=reachBytes/\∀a∈l,True):=(RdA.of ra_Rl).slice Tryz.underlying48 (by kernel_rfl) (by decide) (Nat.le_of_ble_eq_true (by kernel_rfl))
theorem rz_Tab:RdA Tryz.prog 47 1 (fun l:List (List Rl)=>[.sl (l.map cRls)]) (fun l=>l.length<=reachBytes/\∀a∈l,a.length<=reachBytes/\∀b∈a,True):=rz_Rls.slice Tryz.underlying47 (by kernel_rfl) (by decide) (Nat.le_of_ble_eq_true (by kernel_rfl))
theorem rz_Tabs:RdA Tryz.prog 29 1 (fun l:List (List (List Rl))=>[.sl (l.map cTab)]) (fun l=>l.length<=reachBytes/\∀a∈l,a.length<=reachBytes/\∀b∈a,b.length<=reachBytes/\∀c∈b,True):=rz_Tab.slice Tryz.underlying29 (by kernel_rfl) (by decide) (Nat.le_of_ble_eq_true (by kernel_rfl))
theorem rz_Cf:RdA Tryz.prog 31 5 (α:=Cf) cCf Cf.Lens:=by
 refine ⟨fun _=>rfl,fun a=>List.all_eq_true.1 rfl,fun H e w base spare held fuel cs x hx hz=>?_⟩
 obtain ⟨m,hl,hp⟩:=struct_partZ Tryz.underlying31 hx hz
 have hl:cs.length=5:=hl.trans (by kernel_rfl)
 obtain ⟨a0,h0,_⟩:=(RdA.of ra_Topo).part (hp 0 24 0 1 rfl (by kernel_rfl))
 obtain ⟨a1,h1,_⟩:=(RdA.of ra_Pol).part (hp 1 28 1 3 rfl (by kernel_rfl))
 obtain ⟨a2,h2,q2⟩:=rz_Tabs.part (hp 2 29 4 1 rfl (by kernel_rfl))
 refine ⟨⟨a0,a1,a2⟩,PWs.all ?_,fun t ht l hl=>((q2.2 t ht).2 l hl).1⟩
 exact h0.join rfl (h1.join rfl (h2.join rfl (PWs.nil hl)))
end Go.Proofs.YtoaibdbehlcnfaaGreat.Sm
end
section
namespace Go.Proofs.YtoaibdbehlcnfaaGreat.Sm
open Go.RowKit
def lnCube:Cb:=⟨⟨0,1⟩,⟨0,1⟩⟩
def lnDrop:Rl:=⟨0,Cb.zero,⟨1,0,0,Cb.zero⟩⟩
def lnR0:List Rl:=[⟨1,lnCube,⟨3,1,0,Cb.zero⟩⟩,lnDrop]
def lnR1:List Rl:=[⟨1,lnCube,⟨2,1,0,Cb.zero⟩⟩,lnDrop]
def lnPorts:List (List Pt):=[[⟨1,0,0,0,0⟩,⟨2,0,1,0,1⟩],[⟨2,0,0,1,1⟩,⟨1,0,0,0,0⟩]]
def lineC:Cf:=⟨⟨lnPorts⟩,⟨1,[],[]⟩,[[lnR0],[lnR1]]⟩
def lnB:List (Nat × SB):=[(300,⟨0,some (.box 47 [.ref 301 0 (.sl 0 1 1),.ref 302 0 (.sl 0 1 1)])⟩),(301,⟨0,some (.box 48 [.row 24 0 0 2])⟩),(302,⟨0,some (.box 48 [.row 30 0 0 2])⟩),(24,⟨0,some (.row 40 12 (lnR0.map cRl))⟩),(30,⟨0,some (.row 40 12 (lnR1.map cRl))⟩),(12,⟨0,some (.row 115 1 (lnPorts.map cPts))⟩)]
def lnV:AV:=.agg [.row 12 0 0 2,.i .i64 1,.sl [],.sl [],.ref 300 0 (.sl 0 2 2)]
def RmL (π:List (Nat × Nat)) (σ σ':Sto):List AV->List AV->Prop
 | [],[]=>True
 | x::xs,y::ys=>(Rm π σ σ' x y/\y.one=true)/\RmL π σ σ' xs ys
 | _,_=>False
theorem RmL.ok {π:List (Nat × Nat)} {σ σ':Sto}:∀{xs ys:List AV},RmL π σ σ' xs ys->ys.length=xs.length/\∀(j:Nat) (x y:AV),xs[j]?=some x->ys[j]?=some y->Rm π σ σ' x y/\y.one=true
 | [],[],_=>⟨rfl,fun j x y h=>by simp at h⟩
 | x::xs,y::ys,h=>by
  obtain ⟨h1,h2⟩:=h
  obtain ⟨g1,g2⟩:=RmL.ok h2
  refine ⟨by rw [List.length_cons,List.length_cons,g1],fun j a b ha hb=>?_⟩
  cases j with
  | zero =>
   obtain rfl:x=a:=by simpa using ha
   obtain rfl:y=b:=by simpa using hb
   exact h1
  | succ j=>exact g2 j a b (by simpa using ha) (by simpa using hb)
 | [],y::ys,h=>h.elim
 | x::xs,[],h=>h.elim
theorem Rm.aggL {π:List (Nat × Nat)} {σ σ':Sto} {z:AV} {xs ys:List AV} (e:z = .agg xs) (h:RmL π σ σ' xs ys):Rm π σ σ' z (.agg ys):=by
 subst e
 obtain ⟨g1,g2⟩:=h.ok
 refine .agg g1 (fun j y hy=>?_) fun j x y hx hy=>(g2 j x y hx hy).1
 obtain ⟨x,hx⟩:∃x,xs[j]?=some x:=⟨_,List.getElem?_eq_getElem (by rw [<- g1];exact (List.getElem?_eq_some_iff.1 hy).1)⟩
 exact (g2 j x y hx hy).2
theorem Rm.refIs {π:List (Nat × Nat)} {σ σ':Sto} {x:AV} {id id' ep ep':Nat} {k:RK} {bd bd':Body} (e:x = .ref id ep k) (hm:lkP π id=some id') (h:σ id=⟨ep,some bd⟩) (h':σ' id'=⟨ep',some bd'⟩):Rm π σ σ' x (.ref id' ep' k):=e ▸ .ref (lkP_ok hm) h h'
end Go.Proofs.YtoaibdbehlcnfaaGreat.Sm
end
section
namespace Go.Proofs.YtoaibdbehlcnfaaGreat.Sm
open Go.RowKit
end Go.Proofs.YtoaibdbehlcnfaaGreat.Sm
end
section
namespace Go.Proofs.YtoaibdbehlcnfaaGreat.Sm
open Go.RowKit
end Go.Proofs.YtoaibdbehlcnfaaGreat.Sm
end
section
namespace Go.Proofs.YtoaibdbehlcnfaaGreat.Sm
open Go.RowKit
theorem flat_mem {α:Type} {l:List α}:∀{ls:List (List α)},l∈ls->l.length<=ls.flatten.length
 | x::ls,h=>by
  rw [List.flatten_cons,List.length_append]
  rcases List.mem_cons.1 h with rfl | h
  ·omega
  ·have:=flat_mem h
   omega
theorem Cf.small {c:Cf} (h0:c.sound=0) (hL:c.Lens):c.Small:=by
 have hc:=Cf.ok h0
 intro t ht
 obtain ⟨n,hn⟩:=List.mem_iff_getElem?.1 ht
 have h3:=(tabSound_ok (hc.tabs n t hn)).2.1
 have h4:=flat_bound t (hL t ht)
 have h5:reachBytes*t.length<=reachBytes*3:=Nat.mul_le_mul_left _ h3
 have h6:reachBytes*3<=1000000000000000:=by decide
 omega
theorem looks_any {c:Cf} (h0:c.sound=0) (hL:c.Lens):LooksOk c:=by
 have hc:=Cf.ok h0
 have hs:=Cf.small h0 hL
 intro n t
 have hnil:LookOk []:=look_any [] (by decide)
 rw [tabOf,List.getD_eq_getElem?_getD,List.getD_eq_getElem?_getD]
 cases h1:c.tables[n]? with
 | none=>exact hnil
 | some tb =>
  show LookOk (tb[t]?.getD [])
  cases h2:tb[t]? with
  | none=>exact hnil
  | some l =>
   have h3:=tabSound_ok (hc.tabs n tb h1)
   have h4:=hs tb (List.mem_of_getElem? h1)
   have h5:=countT_len tb 0 (by omega)
   have h6:=flat_mem (List.mem_of_getElem? h2)
   have h7:((0:Nat):Int)=0:=rfl
   rw [h7] at h5
   exact look_any l (by omega)
def sortG (l:List Cb):List Cb:=(stable ltC l.toArray).toList
theorem sortG_perm (l:List Cb):(sortG l).Perm l:=stable_perm l
theorem malE_sound {c:Cf} {V:Int} (h:malE c V=0):c.sound=0:=by
 rw [malE] at h
 split at h
 ·assumption
 ·exact h
theorem malE_zero {c:Cf} (h0:c.sound=0) {v:Nat} (hv:v<=255):malE c (v:Int)=0:=by
 rw [malE,if_pos h0,if_neg (by omega)]
end Go.Proofs.YtoaibdbehlcnfaaGreat.Sm
end
section
namespace Go.Proofs.YtoaibdbehlcnfaaGreat.Sm
open Go.RowKit
def Hop.zero:Hop:=⟨0,0,0,Hd.zero⟩
theorem goF_pre {c:Cf}:∀(f n t:Nat) (h:Hd) (pre:List Hop),∃m,(goF c f n t h pre).hops=pre++m
 | 0,n,t,h,pre=>⟨[],by rw [goF,List.append_nil]⟩
 | f+1,n,t,h,pre=>by
  rw [goF]
  split
  ·exact ⟨_,rfl⟩
  ·rename_i r _
   split
   ·obtain ⟨m,hm⟩:=goF_pre f n ((tabOf c n t).getD r Rl.zero).act.table.toNat (h.set ((tabOf c n t).getD r Rl.zero).act.set) (pre++[⟨n,t,r,h⟩])
    exact ⟨_,by rw [hm,List.append_assoc]⟩
   split
   ·obtain ⟨m,hm⟩:=goF_pre f (portAt c.topo.ports ⟨n,((tabOf c n t).getD r Rl.zero).act.port⟩).peer.toNat 0 (h.set ((tabOf c n t).getD r Rl.zero).act.set) (pre++[⟨n,t,r,h⟩])
    exact ⟨_,by rw [hm,List.append_assoc]⟩
   split
   ·exact ⟨_,rfl⟩
   ·exact ⟨_,rfl⟩
end Go.Proofs.YtoaibdbehlcnfaaGreat.Sm
end
section
namespace Go.Proofs.YtoaibdbehlcnfaaGreat.Sm
open Go.RowKit
end Go.Proofs.YtoaibdbehlcnfaaGreat.Sm
end
section
namespace Go.Proofs.YtoaibdbehlcnfaaGreat.Sm
open Go.RowKit
end Go.Proofs.YtoaibdbehlcnfaaGreat.Sm
end
section
namespace Go.Proofs.YtoaibdbehlcnfaaGreat.Sm
open Go.RowKit
end Go.Proofs.YtoaibdbehlcnfaaGreat.Sm
end
section
namespace Go.Proofs.YtoaibdbehlcnfaaGreat.Sm
open Go.RowKit
end Go.Proofs.YtoaibdbehlcnfaaGreat.Sm
end
section
namespace Go.Proofs.YtoaibdbehlcnfaaGreat.Sm
open Go.RowKit
theorem goF_fin {c:Cf}:∀(f n t:Nat) (h:Hd) (pre:List Hop),1<=(goF c f n t h pre).fin/\(goF c f n t h pre).fin<=4
 | 0,n,t,h,pre=>by rw [goF];exact ⟨by dsimp only;decide,by dsimp only;decide⟩
 | f+1,n,t,h,pre=>by
  rw [goF]
  split
  ·exact ⟨by dsimp only;decide,by dsimp only;decide⟩
  split
  ·exact goF_fin f _ _ _ _
  split
  ·exact goF_fin f _ _ _ _
  split
  ·exact ⟨by dsimp only;decide,by dsimp only;decide⟩
  ·exact ⟨by dsimp only;decide,by dsimp only;decide⟩
theorem goF_most {c:Cf}:∀(f n t:Nat) (h:Hd) (pre:List Hop),(goF c f n t h pre).hops.length<=pre.length+f
 | 0,n,t,h,pre=>by rw [goF];exact Nat.le_refl _
 | f+1,n,t,h,pre=>by
  rw [goF]
  split
  ·simp only [List.length_append,List.length_singleton];omega
  split
  ·refine Nat.le_trans (goF_most f _ _ _ _) ?_
   simp only [List.length_append,List.length_singleton];omega
  split
  ·refine Nat.le_trans (goF_most f _ _ _ _) ?_
   simp only [List.length_append,List.length_singleton];omega
  split
  ·simp only [List.length_append,List.length_singleton];omega
  ·simp only [List.length_append,List.length_singleton];omega
theorem rowAllN {X:List (List AV)} {n:Nat} (h:n=X.length):AV.sl (List.take n (List.drop 0 X)) = .sl X:=by
 rw [List.drop_zero,h,List.take_length]
end Go.Proofs.YtoaibdbehlcnfaaGreat.Sm
end
section
namespace Go.Proofs.YtoaibdbehlcnfaaGreat.Sm
open Go.RowKit
end Go.Proofs.YtoaibdbehlcnfaaGreat.Sm
end
section
namespace Go.Proofs.YtoaibdbehlcnfaaGreat.Sm
open Go.RowKit
end Go.Proofs.YtoaibdbehlcnfaaGreat.Sm
end
section
namespace Go.Proofs.YtoaibdbehlcnfaaGreat.Sm
open Go.RowKit
end Go.Proofs.YtoaibdbehlcnfaaGreat.Sm
end
section
namespace Go.Proofs.YtoaibdbehlcnfaaGreat.Sm
open Go.RowKit
theorem d_OfG (c:Cf) (V:Nat) (hV:V<=255) (h0:c.sound=0) (hL:c.Lens):PDoes Tryz.prog 52 [.agg (cCf c),.i .i64 (V:Nat)] (ofR (askedOf c (V:Nat)) (sortG (askedOf c (V:Nat)))) :=
 d_Of c h0 (Cf.small h0 hL) V hV _ (sortG_perm _) fun h=>sort_any _ (by omega)
end Go.Proofs.YtoaibdbehlcnfaaGreat.Sm
end
section
namespace Go.Proofs.YtoaibdbehlcnfaaGreat.Sm
open Go.RowKit
structure NestC (W:World) (F:Nat->Prop) (μ:Mu) (σ:Sto) (els:List AV) (cells:List Value):Prop where
 n:cells.length=els.length
 r:∀(k:Nat) (x:AV),els[k]?=some x->x.one=true/\∃u,cells[k]?=some u/\Rel W F μ σ x u
theorem NestC.one {W:World} {F:Nat->Prop} {μ:Mu} {σ:Sto} {els:List AV} {cells:List Value} (h:NestC W F μ σ els cells) {k:Nat} {u:Value} (hu:cells[k]?=some u):u.oneCell'=true:=by
 have hk:k<els.length:=by rw [<- h.n];exact (List.getElem?_eq_some_iff.1 hu).1
 obtain ⟨r1,u',r2,r3⟩:=h.r k _ (List.getElem?_eq_getElem hk)
 obtain rfl:=Option.some.inj (hu.symm.trans r2)
 exact r3.one r1
theorem NestC.body {W:World} {F:Nat->Prop} {μ:Mu} {σ:Sto} {t b cap:Nat} {els:List AV} {cells:List Value} {cur:Array Value} (h:NestC W F μ σ els cells) (hh:W.heap[b]?=some (.cells cur t (0,0))) (h1:els.length<=cap) (h2:cap<=maxLen) (h3:cur.size=cap)
  (h4:cur.toList.take els.length=cells):BodyRel W F μ σ (some (b,cap)) (.nest t els):=by
 refine .inr ⟨b,cap,cur,rfl,hh,h1,h2,h3,fun k x hk=>?_⟩
 obtain ⟨r1,u,r2,r3⟩:=h.r k x hk
 refine ⟨r1,u,?_,r3⟩
 rw [<- h4,List.getElem?_take] at r2
 split at r2
 ·simpa using r2
 ·cases r2
section
variable {P : Program} {N : Nat} {o : Oper} {s : St}
end
end Go.Proofs.YtoaibdbehlcnfaaGreat.Sm
end
section
namespace Go.Proofs.YtoaibdbehlcnfaaGreat.Sm
open Go.RowKit
def Rt (N:Nat) (s:St) {ι:Type} (st:ι->St) (J:ι->Prop):Prop :=
 ∀W F μ a,RS N W F μ s a->∃F' μ' i,J i/\RS N W F' μ' (st i) a/\Stq W F μ s.σ W F' μ' (st i).σ
section
variable {P : Program} {N : Nat} {Q : Exit -> St -> Prop} {s : St} {c : Code} {ι : Type}
theorem Rt.trans {κ:Type} {s1:κ->St} {K:κ->Prop} {st:ι->St} {J:ι->Prop} (h:Rt N s s1 K) (h':∀k,K k->Rt N (s1 k) st J):Rt N s st J:=by
 intro W F μ a hr
 obtain ⟨F',μ',k,hK,hr',hs⟩:=h W F μ a hr
 obtain ⟨F'',μ'',i,hJ,hr'',hs'⟩:=h' k hK W F' μ' a hr'
 exact ⟨F'',μ'',i,hJ,hr'',hs.trans hs'⟩
open Classical in
end
def lkF (b:List (Nat × SB)) (f:Nat->SB):Sto:=fun id=>cond (Nat.ble 1000 id) (f (id - 1000)) (lkB b id)
theorem lkF_hi (b:List (Nat × SB)) (f:Nat->SB) (k:Nat):lkF b f (k+1000)=f k:=by
 have h:Nat.ble 1000 (k+1000)=true:=Nat.ble_eq_true_of_le (Nat.le_add_left 1000 k)
 show cond (Nat.ble 1000 (k+1000)) (f (k+1000 - 1000)) _=_
 rw [h,Nat.add_sub_cancel]
 rfl
theorem lkF_lo (b:List (Nat × SB)) (f:Nat->SB) {id:Nat} (h:id<1000):lkF b f id=lkB b id:=by
 have:Nat.ble 1000 id=false:=by
  cases e:Nat.ble 1000 id
  ·rfl
  ·exact absurd (Nat.le_of_ble_eq_true e) (by omega)
 rw [lkF,this,cond_false]
theorem WkF.to {s : St} {l : List (Nat × AV)} {b : List (Nat × SB)} {f : Nat -> SB} (ht : WkT s (lkF b f) l) (hB : WkB s (lkF b f) b)
    (hf:∀k bd',(f k).body=some bd'->∃bd,(s.σ (k+1000)).body=some bd/\RnB s.σ (lkF b f) bd bd'):Wk s ⟨lkT l,lkF b f⟩ :=
  ⟨wkT_ok ht,fun id bd' h=>by
    by_cases hid:1000<=id
    · obtain ⟨k,rfl⟩:∃k,id=k+1000:=⟨id - 1000,by omega⟩
      rw [show (⟨lkT l,lkF b f⟩:St).σ (k+1000)=f k from lkF_hi b f k] at h
      exact hf k bd' h
    · rw [show (⟨lkT l,lkF b f⟩:St).σ id=lkB b id from lkF_lo b f (by omega)] at h
      exact wkB_ok hB id bd' h⟩
section
variable {σ : Sto} {i j L e eL tL : Nat} {bd : Body} {els2 : List AV}
end
end Go.Proofs.YtoaibdbehlcnfaaGreat.Sm
end
section
namespace Go.Proofs.YtoaibdbehlcnfaaGreat.Sm
open Go.RowKit
theorem RnB.rel {W:World} {F:Nat->Prop} {μ:Mu} {σ σ':Sto} {bd bd':Body} (hR:RnB σ σ' bd bd') {p:Option (Nat × Nat)} (hB:BodyRel W F μ σ p bd):BodyRel W F μ σ' p bd':=by
  cases hR with
  | row t m els=>exact hB
  | rowT t m n els=>exact hB.take n
  | obj o=>exact hB
  | @nest t els els' hl h1 hrn =>
    rcases hB with ⟨hn,rfl⟩ | ⟨b,cap,cur,hp,hh,q1,q2,q3,q4⟩
    · exact .inl ⟨hn,List.length_eq_zero_iff.1 hl⟩
    · refine .inr ⟨b,cap,cur,hp,hh,by omega,q2,q3,fun k x' hk=>⟨h1 k x' hk,?_⟩⟩
      obtain ⟨x,hx⟩:∃x,els[k]?=some x:=⟨_,List.getElem?_eq_getElem (by rw [<- hl];exact (List.getElem?_eq_some_iff.1 hk).1)⟩
      obtain ⟨_,v,hv,hr'⟩:=q4 k x hx
      exact ⟨v,hv,(hrn k x x' hx hk).rel hr'⟩
  | ghost h h'=>exact ⟨hB.1,by rw [h'];exact Nat.le_refl _,fun bd _=>hB.2.2 _ h⟩
  | @box t cs cs' hl h1 hrn =>
    obtain ⟨b,c,vs,hm,hw,hlv,hv⟩:=hB
    refine ⟨b,c,vs,hm,hw,by rw [hlv,hl],fun j x' v hj hvj=>⟨h1 j x' hj,?_⟩⟩
    obtain ⟨x,hxj⟩:∃x,cs[j]?=some x:=⟨_,List.getElem?_eq_getElem (by rw [<- hl];exact (List.getElem?_eq_some_iff.1 hj).1)⟩
    exact (hrn j x x' hxj hj).rel (hv j x v hxj hvj).2
end Go.Proofs.YtoaibdbehlcnfaaGreat.Sm
end
section
namespace Go.Proofs.YtoaibdbehlcnfaaGreat.Sm
open Go.RowKit
def Abd {α:Type} (J:Option (List α)->(Nat->Prop)->World->Prop):Prop :=
 ∀p M M' W1 W2,J p M W1->Kp M W1 W2->(∀b,M b->M' b)->(∀b,M' b->M b\/(W1.heap.size<=b/\b<W2.heap.size))->J p M' W2
def Yld {α:Type} (P:Program) (F:Nat->Prop) (enc:α->List AV) (Nx:List α->α->Prop) (l:Nat) (J:Option (List α)->(Nat->Prop)->World->Prop):Prop :=
 ∀pre x M W1 (vs:List Value),J (some pre) M W1->Nx pre x->(∀b,M b->b<W1.heap.size)->vs.length=(enc x).length ->
  (∀(j:Nat) (y:AV) (v:Value),(enc x)[j]?=some y->vs[j]?=some v->PRel W1 (fun b=>F b\/M b) y v) ->
  YieldAt Fence.wide 0 P l vs.toArray W1 fun e W2=>∃go:Bool,e = .returned (.bool go)/\J (if go then some (pre++[x]) else none) M W2/\Kp (fun b=>¬F b/\¬M b) W1 W2
structure IDoes {α:Type} (P:Program) (f:FuncId) (caps:List AV) (enc:α->List AV) (Nx:List α->α->Prop) (Fin:List α->Prop):Prop where
 fn : ∃ fn c, P.funcs[f]? = some fn /\ fn.body = some c /\ (fn.name == "runtime.NumGoroutine") = false
 calls:∀(W:World) (F:Nat->Prop) (cs:List Value),cs.length=caps.length->(∀(j:Nat) (x:AV) (v:Value),caps[j]?=some x->cs[j]?=some v->PRel W F x v)->(∀b,F b->b<W.heap.size) ->
  ∀(l:Nat) (J:Option (List α)->(Nat->Prop)->World->Prop),Abd J->Yld P F enc Nx l J->J (some []) (fun _=>False) W ->
   Calls P f (.func (.yield l) #[] #[]::cs).toArray W fun e W'=>(∃v,e = .returned v)/\∃M,J none M W'\/∃pre,Fin pre/\J (some pre) M W'
structure Sd (F0:Nat->Prop) (W:World) (F:Nat->Prop) (μ:Mu) (σ:Sto) (a:Act) (M:Nat->Prop):Prop where
 own:∀b,Own μ σ b->M b
 fro:∀b,F b->F0 b\/M b
 fr0:∀b,F0 b->F b
 lt:∀b,M b->b<W.heap.size
 df:∀D,({ target:=.collected D,args:=#[] }:Deferred)∈a.defers->M D
theorem DefOk.lt {W:World} {F:Nat->Prop} {μ:Mu} {σ:Sto} {ds:List Deferred} (h:DefOk W F μ σ ds) {D:Nat} (hD:({ target:=.collected D,args:=#[] }:Deferred)∈ds):W.heap[D]?=some (.deferred (some []))/\¬F D/\¬Own μ σ D:=by
 obtain ⟨Ds,h1,rfl,h3⟩:=h
 obtain ⟨D',h4,h5⟩:=List.mem_map.1 hD
 obtain rfl:D'=D:=by simpa using h5
 exact h3 _ h4
theorem DefOk.heap {W W':World} {F:Nat->Prop} {μ:Mu} {σ:Sto} {ds:List Deferred} (h:DefOk W F μ σ ds) (hk:∀D,({ target:=.collected D,args:=#[] }:Deferred)∈ds->W'.heap[D]?=W.heap[D]?):DefOk W' F μ σ ds:=by
 obtain ⟨Ds,h1,rfl,h3⟩:=h
 exact ⟨Ds,h1,rfl,fun D hD=>⟨(hk D (List.mem_map_of_mem hD)).trans (h3 D hD).1,(h3 D hD).2⟩⟩
abbrev newM (M:Nat->Prop) (W W':World):Nat->Prop:=fun b=>M b\/(W.heap.size<=b/\b<W'.heap.size)
theorem Sd.std {F0:Nat->Prop} {N:Nat} {W W':World} {F F':Nat->Prop} {μ μ':Mu} {σ:Sto} {s':St} {a a':Act} {M:Nat->Prop} (hd:Sd F0 W F μ σ a M) (hs:Std W F μ σ a W' F' μ' s'.σ a') (hr':RS N W' F' μ' s' a'):Sd F0 W' F' μ' s'.σ a' (newM M W W'):=by
  refine ⟨fun b hb=>?_,fun b hb=>?_,fun b hb=>hs.fro b (hd.fr0 b hb),fun b hb=>?_,fun D hD=>?_⟩
  · rcases hs.own b hb with h | h
    · exact .inl (hd.own b h)
    · exact .inr ⟨h,(hr'.inv.apart b hb).1⟩
  · rcases hs.new b hb with h | h | h
    · exact (hd.fro b h).imp (fun h=>h) .inl
    · exact .inr (.inl (hd.own b h))
    · exact .inr (.inr ⟨h,hr'.inv.old b hb⟩)
  · rcases hb with hb | hb
    · exact Nat.lt_of_lt_of_le (hd.lt b hb) hs.kp.size
    · exact hb.2
  · rcases hs.nw _ hD with h | ⟨D',e,h⟩
    · exact .inl (hd.df D h)
    · obtain rfl:D=D':=by simpa using e
      exact .inr ⟨h,(Array.getElem?_eq_some_iff.1 (hr'.defers.lt hD).1).1⟩
abbrev thenJ {α:Type} (K:Option (List α)->St->Prop) (Q:Exit->Option (List α)->St->Prop):Exit->Option (List α)->St->Prop
 | .normal,p,s=>K p s
 | e,p,s=>Q e p s
abbrev inBlkJ {α:Type} (id:Nat) (Q:Exit->Option (List α)->St->Prop):Exit->Option (List α)->St->Prop
 | .exit id',p,s=>if id'=id then Q .normal p s else Q (.exit id') p s
 | e,p,s=>Q e p s
def AWJ {α:Type} (P:Program) (N:Nat) (F0:Nat->Prop) (J:Option (List α)->(Nat->Prop)->World->Prop) (c:Code) (Q:Exit->Option (List α)->St->Prop) (p:Option (List α)) (s:St):Prop :=
 ∀W F μ a M,RS N W F μ s a->Sd F0 W F μ s.σ a M->J p M W->Code.wpIn Fence.wide 0 P c (fun e a' W'=>∃F' μ' s' p' M',Q e p' s'/\RS N W' F' μ' s' a'/\Sd F0 W' F' μ' s'.σ a' M'/\J p' M' W') a W
section
variable {α : Type} {P : Program} {N : Nat} {F0 : Nat -> Prop} {J : Option (List α) -> (Nat -> Prop) -> World -> Prop} {Q : Exit -> Option (List α) -> St -> Prop} {p : Option (List α)} {s : St}
theorem AWJ.lift (hJ:Abd J) {c:Code} (h:AW P N c (fun e s'=>Q e p s') s):AWJ P N F0 J c Q p s:=by
 intro W F μ a M hr hd hj
 refine wpIn_mono (h W F μ a hr none fun _=>rfl) ?_
 rintro e a' W' ⟨F',μ',s',hq,hr',hs⟩
 exact ⟨F',μ',s',p,newM M W W',hq,hr',hd.std hs hr',hJ p M _ W W' hj (hs.kp.mono fun k _ hk=>hd.own k hk) (fun b hb=>.inl hb) (fun b hb=>hb)⟩
theorem AWJ.seq {x y:Code} (h:AWJ P N F0 J x (thenJ (AWJ P N F0 J y Q) Q) p s):AWJ P N F0 J (.seq x y) Q p s:=by
 intro W F μ a M hr hd hj
 refine wpIn_seq (wpIn_mono (h W F μ a M hr hd hj) ?_)
 rintro e a' W' ⟨F',μ',s',p',M',hq,hr',hd',hj'⟩
 cases e with
 | normal=>exact hq W' F' μ' a' M' hr' hd' hj'
 | _=>exact ⟨F',μ',s',p',M',hq,hr',hd',hj'⟩
theorem AWJ.fst (hJ:Abd J) {x y:Code} (h:AW P N x (thenA (fun s'=>AWJ P N F0 J y Q p s') fun e s'=>Q e p s') s):AWJ P N F0 J (.seq x y) Q p s:=by
 refine AWJ.seq (AWJ.lift hJ (h.mono fun e s' hq=>?_))
 cases e <;> exact hq
theorem AWJ.block {id:Nat} {c:Code} (h:AWJ P N F0 J c (inBlkJ id Q) p s):AWJ P N F0 J (.block id c) Q p s:=by
 intro W F μ a M hr hd hj
 refine wpIn_block (wpIn_mono (h W F μ a M hr hd hj) ?_)
 rintro e a' W' ⟨F',μ',s',p',M',hq,hr',hd',hj'⟩
 cases e with
 | exit id' =>
  show if id'=id then _ else _
  simp only [inBlkJ] at hq
  split
  ·rename_i e
   rw [if_pos e] at hq
   exact ⟨F',μ',s',p',M',hq,hr',hd',hj'⟩
  ·rename_i e
   rw [if_neg e] at hq
   exact ⟨F',μ',s',p',M',hq,hr',hd',hj'⟩
 | _=>exact ⟨F',μ',s',p',M',hq,hr',hd',hj'⟩
theorem Sd.wk {W:World} {F:Nat->Prop} {μ:Mu} {s s':St} {a:Act} {M:Nat->Prop} (hd:Sd F0 W F μ s.σ a M) (h:Wk s s'):Sd F0 W F μ s'.σ a M:=⟨fun b hb=>hd.own b (h.own hb),hd.fro,hd.fr0,hd.lt,hd.df⟩
open Classical in
theorem AWJ.loop {c:Code} {ι:Type} (st:ι->St) (pr:ι->Option (List α)) (I:ι->Prop) (m:ι->Nat) (i0:ι) (h0:I i0) (hp:p=pr i0) (hw:Wk s (st i0))
  (round:∀i,I i->AWJ P N F0 J c (thenJ (fun p' s'=>∃i',(I i'/\m i'<m i)/\p'=pr i'/\Wk s' (st i')) Q) (pr i) (st i)):AWJ P N F0 J (.loop c) Q p s:=by
 intro W F μ a M hr hd hj
 let R:Nat->Act->World->Prop:=fun n a' W'=>∃F' μ' i M',m i=n/\I i/\RS N W' F' μ' (st i) a'/\Sd F0 W' F' μ' (st i).σ a' M'/\J (pr i) M' W'
 refine wpIn_loop (fun a' W'=>∃n,R n a' W') (fun a' W'=>if h:∃n,R n a' W' then (least _ h).choose else 0) ⟨_,F,μ,i0,M,rfl,h0,hw.rs hr,hd.wk hw,hp ▸ hj⟩ ?_
 intro a1 W1 h
 simp only [dif_pos h]
 obtain ⟨F1,μ1,i,M1,hm,hI,hr1,hd1,hj1⟩:=(least _ h).choose_spec.1
 rw [<- hm]
 refine wpIn_mono (round i hI W1 F1 μ1 a1 M1 hr1 hd1 hj1) ?_
 rintro e a' W' ⟨F',μ',s',p',M',hq,hr',hd',hj'⟩
 cases e with
 | normal =>
  obtain ⟨i',⟨hI',hlt⟩,rfl,hw'⟩:=hq
  have hR:R (m i') a' W':=⟨F',μ',i',M',rfl,hI',hw'.rs hr',hd'.wk hw',hj'⟩
  refine ⟨⟨_,hR⟩,?_⟩
  simp only [dif_pos (show ∃n,R n a' W' from ⟨_,hR⟩)]
  exact Nat.lt_of_le_of_lt ((least (fun n=>R n a' W') ⟨_,hR⟩).choose_spec.2 _ hR) hlt
 | _=>exact ⟨F',μ',s',p',M',hq,hr',hd',hj'⟩
end
section
variable {α : Type} {P : Program} {N : Nat} {F0 : Nat -> Prop} {J : Option (List α) -> (Nat -> Prop) -> World -> Prop} {Q : Exit -> Option (List α) -> St -> Prop} {p : Option (List α)} {s : St}
theorem AWJ.loopL {c:Code} {ι:Type} (T:ι->List (Nat × AV)) (B:ι->List (Nat × SB)) (pr:ι->Option (List α)) (I:ι->Prop) (m:ι->Nat) (i0:ι) (h0:I i0) (hp:p=pr i0) (ht:WkT s (lkB (B i0)) (T i0)) (hB:WkB s (lkB (B i0)) (B i0))
  (round:∀i,I i->AWJ P N F0 J c (thenJ (fun p' s'=>∃i',(I i'/\m i'<m i)/\p'=pr i'/\Wk s' (stL (T i') (B i'))) Q) (pr i) (stL (T i) (B i))):AWJ P N F0 J (.loop c) Q p s :=
 AWJ.loop (fun i=>stL (T i) (B i)) pr I m i0 h0 hp ⟨fun t=>wkT_ok ht t,wkB_ok hB⟩ round
theorem AW.lensJ (hJ:Abd J) {c:Code} (t:Nat) {els:List (List AV)} (ht:s.ts t = .sl els) (h:els.length<=9223372036854775807->AWJ P N F0 J c Q p s):AWJ P N F0 J c Q p s:=by
 intro W F μ a M hr hd hj
 refine h ?_ W F μ a M hr hd hj
 have hx:=hr.ts t
 rw [ht] at hx
 generalize a.tmps.getD t undef=v at hx
 cases hx.sl' with
 | sl _ A cc m b off cell hc hm =>
  have:maxLen=9223372036854775807:=by decide
  omega
end
theorem chain_app {P:Program} {N:Nat} {ops:Array Oper} {l:List Oper} {s s':St} {Es:List Eff} (h:Chain P N ops l s Es s') (rest:List Oper) :
  ∀(W:World) F μ a,RS N W F μ s a->∀(ro:Option Nat) (Q:Exit->Act->World->Prop),(∀W' F' μ' a',RS N W' F' μ' s' a'->Stp W F μ s.σ W' F' μ' s'.σ->a'.defers=a.defers->wpListIn (wideR ro) 0 P ops Q rest a' W')->wpListIn (wideR ro) 0 P ops Q (l++rest) a W:=by
 induction h with
 | nil s=>exact fun W F μ a hr ro Q hq=>hq W F μ a hr (Stp.refl _ _ _ _) rfl
 | op hg hb h _ ih =>
  intro W F μ a hr ro Q hq
  rw [List.cons_append]
  unfold wpListIn
  rw [if_pos (gd_wanted hr hg)]
  exact op_in hr (gd_0 hg).2 hb (h.ok W F μ a hr _ _ fun W' F' μ' a' hr' hs hd=>ih W' F' μ' a' hr' ro Q fun W'' F'' μ'' a'' hr'' hs' hd'=>hq W'' F'' μ'' a'' hr'' (hs.trans hs') (hd'.trans hd))
 | skip hg _ ih =>
  intro W F μ a hr ro Q hq
  rw [List.cons_append]
  unfold wpListIn
  rw [if_neg (by rw [gd_wanted hr hg];simp)]
  exact ⟨fun _ _=>trivial,ih W F μ _ (hr.skip _) ro Q fun W' F' μ' a' h1 h2 h3=>hq W' F' μ' a' h1 h2 (h3.trans (defers_put _ _ _))⟩
theorem exec_yield {P:Program} {o:Oper} {c:Call} {fop:Operand} (ho:o.op = .call c) (hc:c.callee = .value fop) {a:Act} {l:Nat} (hf:a.eval fop = .func (.yield l) #[] #[]) (W:World) :
  (execOp a.eval o).run P W=(Instr.yield l (c.args.map a.eval)).run P W:=by
 obtain ⟨dst,op,ty,pos,after,guard⟩:=o
 simp only at ho
 subst ho
 simp [execOp,resolve,hc,hf,Deferred.ofValue,invoke]
theorem AWJ.yield {α : Type} {P : Program} {N : Nat} {F0 : Nat -> Prop} {J : Option (List α) -> (Nat -> Prop) -> World -> Prop} {Q : Exit -> Option (List α) -> St -> Prop} {s : St} (hJ : Abd J) {enc : α -> List AV} {Nx : List α -> α -> Prop} {l : Nat} (hy : Yld P F0 enc Nx l J)
    {id:Nat} {ops:Array Oper} (k:Nat) {o:Oper} {c:Call} {fop:Operand} {pre:List α} (x:α) (hnx:Nx pre x) (hl:ops.toList=ops.toList.take k++o::ops.toList.drop (k+1)) (ho:o.op = .call c) (hc:c.callee = .value fop)
    (h:RG P N ops (ops.toList.take k) s fun s1 _=>gd ops s1 o=some true/\s1.ev fop = .raw (.func (.yield l) #[] #[])/\(∃ys ids,fzL s1.σ 6 (c.args.toList.map s1.ev)=some (ys,ids)/\ys=enc x) /\
      ∀go:Bool,RG P N ops (ops.toList.drop (k+1)) ⟨putS N s1.ts o.dst (.b go),s1.σ⟩ fun s' _=>Q .normal (if go then some (pre++[x]) else none) s'):AWJ P N F0 J (.region id ops false) Q (some pre) s:=by
  intro W F μ a M hr hd hj
  obtain ⟨Es,s1,hch,hg,hf,⟨ys,ids,hz,rfl⟩,h2⟩:=h
  refine wpIn_region_list ?_
  rw [hl]
  refine chain_app hch _ W F μ a hr none _ fun W1 F1 μ1 a1 hr1 hs1 hd1=>?_
  have hs1':=hs1.q.d hd1
  have hsd1:=hd.std hs1' hr1
  have hj1:J (some pre) (newM M W W1) W1:=hJ _ M _ W W1 hj (hs1.kp.mono fun k _ hk=>hd.own k hk) (fun b hb=>.inl hb) (fun b hb=>hb)
  generalize newM M W W1=M1 at hsd1 hj1
  unfold wpListIn
  rw [if_pos (gd_wanted hr1 hg)]
  have hfv:=(hr1.ev fop)
  rw [hf] at hfv
  have hfe:=hfv.raw'
  refine ⟨fun _ _=>trivial,?_⟩
  show Oper.uponIn _ _ _ _ _ _ _ ((execOp a1.eval o).run P W1)
  rw [exec_yield ho hc hfe]
  have hrel:=(fzL_ok hz).rel (W:=W1) (F:=F1) (μ:=μ1) hr1.inv (vs:=c.args.toList.map a1.eval) (by simp) (fun j y v hj' hv=>by
    rw [List.getElem?_map] at hj' hv
    cases hq:c.args.toList[j]? with
    | none=>rw [hq] at hj';cases hj'
    | some q =>
      rw [hq] at hj' hv
      obtain rfl:s1.ev q=y:=by simpa using hj'
      obtain rfl:a1.eval q=v:=by simpa using hv
      exact hr1.ev q)
  have hM:∀b,(F1 b\/Beh μ1 s1.σ ids b)->F0 b\/M1 b:=fun b hb=>by
    rcases hb with hb | ⟨i,_,ep,bd,cc,e1,e2⟩
    · exact hsd1.fro b hb
    · exact .inr (hsd1.own b ⟨i,ep,bd,cc,e1,e2⟩)
  obtain ⟨fn,tmps,assign,body,hrun,hround⟩:=hy pre x M1 W1 (c.args.toList.map a1.eval) hj1 hnx hsd1.lt hrel.1.symm (fun j y v e1 e2=>(hrel.2 j y v e1 e2).to hM)
  have eargs:c.args.map a1.eval=(c.args.toList.map a1.eval).toArray:=by
    apply Array.toList_inj.1
    simp
  rw [eargs,hrun]
  refine ⟨fun e=>(by cases e),RoundIn.mono hround ?_⟩
  rintro e W2 ⟨go,rfl,hj2,hk2⟩
  show wpListIn _ _ _ _ _ _ _ _
  have hkeep:∀b,b<W1.heap.size->(F0 b\/M1 b)->W2.heap[b]?=W1.heap[b]?:=fun b hlt hb=>hk2.block b hlt fun hn=>hb.elim hn.1 hn.2
  have hr2:RS N W2 F1 μ1 s1 a1:=hr1.heap hk2.size (fun b hlt hb=>hkeep b hlt (hb.elim (hsd1.fro b) fun h=>.inr (hsd1.own b h)))
    (hr1.defers.heap fun D hD=>hkeep D (Array.getElem?_eq_some_iff.1 (hr1.defers.lt hD).1).1 (.inr (hsd1.df D hD)))
  have hr3:RS N W2 F1 μ1 ⟨putS N s1.ts o.dst (.b go),s1.σ⟩ (a1.put o.dst (.bool go)):=hr2.put (Stp.refl _ _ _ _) hr2.inv (.pure (.b go))
  have hsd3:Sd F0 W2 F1 μ1 s1.σ (a1.put o.dst (.bool go)) M1:=⟨hsd1.own,hsd1.fro,hsd1.fr0,fun b hb=>Nat.lt_of_lt_of_le (hsd1.lt b hb) hk2.size,fun D hD=>hsd1.df D (by rw [defers_put] at hD;exact hD)⟩
  obtain ⟨Es',s',hch',hq⟩:=h2 go
  have:=chain_app hch' [] W2 F1 μ1 _ hr3 none (fun e a' W'=>∃F' μ' s' p' M',Q e p' s'/\RS N W' F' μ' s' a'/\Sd F0 W' F' μ' s'.σ a' M'/\J p' M' W') fun W4 F4 μ4 a4 hr4 hs4 hd4=>?_
  · rw [List.append_nil] at this
    exact this
  · exact ⟨F4,μ4,s',_,newM M1 W2 W4,hq,hr4,hsd3.std (hs4.q.d hd4) hr4,hJ _ M1 _ W2 W4 hj2 (hs4.kp.mono fun k _ hk=>hsd3.own k hk) (fun b hb=>.inl hb) (fun b hb=>hb)⟩
def retI {α:Type} (Fin:List α->Prop) (e:Exit) (p:Option (List α)) (s:St):Prop:=(e = .normal\/e = .ret)/\(p=none\/∃pre,p=some pre/\Fin pre)
theorem IDoes.of_body {α : Type} {P : Program} {f : FuncId} {fn : Func} {c : Code} {caps : List AV} {enc : α -> List AV} {Nx : List α -> α -> Prop} {Fin : List α -> Prop} {N : Nat} (hf : P.funcs[f]? = some fn) (hb : fn.body = some c) (hn : (fn.name == "runtime.NumGoroutine") = false) (hres : fn.results = #[]) (hN : fn.ntmps = N) (hlen : Nat.ble (caps.length + 1) N = true)
    (h:∀(F0:Nat->Prop) (l:Nat) (J:Option (List α)->(Nat->Prop)->World->Prop),Abd J->Yld P F0 enc Nx l J->AWJ P N F0 J c (retI Fin) (some []) (st0 (.raw (.func (.yield l) #[] #[])::caps))):IDoes P f caps enc Nx Fin:=by
  subst hN
  have hlen:=Nat.le_of_ble_eq_true hlen
  refine ⟨⟨fn,c,hf,hb,hn⟩,fun W F cs hl hv hF l J hJ hy hj=>?_⟩
  have hi:Inv W F (fun _=>none) (fun _=>⟨0,none⟩):=⟨fun _ _ _ h=>(by cases h),fun b ⟨_,_,_,_,h,_⟩=>(by cases h),fun _ _ _ _ _ h=>(by cases h),hF⟩
  have hr:RS fn.ntmps W F (fun _=>none) (st0 (.raw (.func (.yield l) #[] #[])::caps)) { tmps:=(Value.func (.yield l) #[] #[]::cs).toArray++Array.replicate (fn.ntmps - (Value.func (.yield l) #[] #[]::cs).toArray.size) undef,defers:=[] }:=by
    refine ⟨fun t=>?_,.nil,by simp;omega,hi⟩
    show Rel W F _ _ ((_::caps).getD t (.tup [])) _
    rw [Array.getD_eq_getD_getElem?,Array.getElem?_append,List.getD_eq_getElem?_getD]
    by_cases ht:t<caps.length+1
    · rw [if_pos (by simp;omega),List.getElem?_toArray]
      cases t with
      | zero=>exact .pure (.raw _)
      | succ t =>
        have h1:caps[t]?=some caps[t]:=List.getElem?_eq_getElem (by omega)
        have h2:cs[t]?=some cs[t]:=List.getElem?_eq_getElem (by omega)
        rw [List.getElem?_cons_succ,List.getElem?_cons_succ,h1,h2]
        exact .pure (hv t _ _ h1 h2)
    · rw [if_neg (by simp;omega),List.getElem?_eq_none (by simp;omega)]
      have:∀q,(Array.replicate q undef)[t - (Value.func (.yield l) #[] #[]::cs).toArray.size]?.getD undef=undef:=by
        intro q
        rw [Array.getElem?_replicate]
        split <;> rfl
      rw [this]
      exact .pure (.tup [] [] rfl (by simp))
  have hsd:Sd F W F (fun _=>none) (st0 (.raw (.func (.yield l) #[] #[])::caps)).σ { tmps:=(Value.func (.yield l) #[] #[]::cs).toArray++Array.replicate (fn.ntmps - (Value.func (.yield l) #[] #[]::cs).toArray.size) undef,defers:=[] } (fun _=>False) :=
    ⟨fun b ⟨_,_,_,_,h,_⟩=>(by cases h),fun b hb=>.inl hb,fun b hb=>hb,fun b hb=>hb.elim,fun D hD=>by cases hD⟩
  refine (callsIn_wide (n:=0)).1 (callsIn_of_wp_marks hf hb trivial (wpIn_mono (h F l J hJ hy W F _ _ _ hr hsd hj) ?_))
  rintro e a' W' ⟨F',μ',s',p',M',⟨he,hp⟩,hr',hd',hj'⟩
  have key:LeavesInM Fence.wide 0 P fn a'.tmps (fun e W'=>(∃v,e = .returned v)/\∃M,J none M W'\/∃pre,Fin pre/\J (some pre) M W') a'.defers .returning W':=by
    obtain ⟨Ds,h1,h2,h3⟩:=hr'.defers
    rw [h2]
    refine leaves_marks Ds W' h1 (fun D hD=>(h3 D hD).1) ⟨_,results_none hres _ _ _,⟨_,rfl⟩,M',?_⟩
    have hkp:=shut_kp Ds W'
    have hjs:J p' M' (shut Ds W'):=hJ p' M' M' W' _ hj' (hkp.mono fun k _ hk=>hd'.df k (by rw [h2];exact List.mem_map_of_mem hk)) (fun b hb=>hb) (fun b hb=>.inl hb)
    rcases hp with rfl | ⟨pre,rfl,hfin⟩
    · exact .inl hjs
    · exact .inr ⟨pre,hfin,hjs⟩
  rcases he with rfl | rfl <;> exact key
end Go.Proofs.YtoaibdbehlcnfaaGreat.Sm
end
section
namespace Go.Proofs.YtoaibdbehlcnfaaGreat.Sm
open Go.RowKit
def AV.nof:AV->Bool
 | .b _ | .i _ _ | .u _ | .y _ | .s _ | .raw _ | .any=>true
 | .own id _ _ | .el id _ _ _ | .row id _ _ _ | .ref id _ _=>Nat.blt id 900
 | _=>false
theorem blt_lt {a b:Nat} (h:Nat.blt a b=true):a<b:=Nat.le_of_ble_eq_true h
theorem nof_rel {W:World} {F F':Nat->Prop} {μ μ':Mu} {σ σ':Sto} (hσ:∀id,id<900->σ' id=σ id/\μ' id=μ id) {x:AV} {v:Value} (h:x.nof=true) (hx:Rel W F μ σ x v):Rel W F' μ' σ' x v:=by
 cases hx with
 | pure hp=>cases hp <;> first | (simp [AV.nof] at h;done) | (exact .pure (by constructor))
 | own id ep off v he h1 hv =>
  obtain ⟨e1,e2⟩:=hσ id (blt_lt h)
  exact .own id ep off v (by rw [e1];exact he) h1 fun bd hb=>by rw [e2];exact hv bd (e1 ▸ hb)
 | el id ep k j v he h1 hv =>
  obtain ⟨e1,e2⟩:=hσ id (blt_lt h)
  exact .el id ep k j v (by rw [e1];exact he) h1 fun bd m len hb hL=>by rw [e2];exact hv bd m len (e1 ▸ hb) hL
 | row id ep off n v he h1 hv =>
  obtain ⟨e1,e2⟩:=hσ id (blt_lt h)
  exact .row id ep off n v (by rw [e1];exact he) h1 fun bd m len hb hL=>by rw [e2];exact hv bd m len (e1 ▸ hb) hL
 | ref id ep k v he h1 hv =>
  obtain ⟨e1,e2⟩:=hσ id (blt_lt h)
  exact .ref id ep k v (by rw [e1];exact he) h1 fun bd hb=>by rw [e2];exact hv bd (e1 ▸ hb)
 | agg=>simp [AV.nof] at h
 | tup=>simp [AV.nof] at h
 | fn=>simp [AV.nof] at h
 | any v=>exact .any v
def Body.nof:Body->Bool
 | .box _ cs=>cs.all AV.nof
 | .row _ _ els=>els.all fun cs=>cs.all AV.flat1
 | .obj _=>true
 | .nest _ els=>els.all AV.nof
 | .ghost _ _ _=>false
theorem nofB_rel {W:World} {F F':Nat->Prop} {μ μ':Mu} {σ σ':Sto} (hσ:∀id,id<900->σ' id=σ id/\μ' id=μ id) {p:Option (Nat × Nat)} {bd:Body} (h:bd.nof=true) (hb:BodyRel W F μ σ p bd):BodyRel W F' μ' σ' p bd:=by
 cases bd with
 | box t cs =>
  obtain ⟨b,c,vs,hp,hh,hl,hr⟩:=hb
  exact ⟨b,c,vs,hp,hh,hl,fun j x v h1 h2=>⟨(hr j x v h1 h2).1,nof_rel hσ (List.all_eq_true.1 h x (List.mem_of_getElem? h1)) (hr j x v h1 h2).2⟩⟩
 | row t m els =>
  rcases hb with hb | ⟨b,cap,cur,hp,hh,h1,h2,h3,h4,h5⟩
  ·exact .inl hb
  ·refine .inr ⟨b,cap,cur,hp,hh,h1,h2,h3,h4,fun k cs j x g1 g2=>?_⟩
   obtain ⟨q1,v,q2,q3⟩:=h5 k cs j x g1 g2
   exact ⟨q1,v,q2,flat1_rel (List.all_eq_true.1 (List.all_eq_true.1 h cs (List.mem_of_getElem? g1)) x (List.mem_of_getElem? g2)) q3⟩
 | ghost id ep q=>cases h
 | obj o=>exact hb
 | nest t els =>
  rcases hb with hb | ⟨b,cap,cur,hp,hh,h1,h2,h3,h5⟩
  ·exact .inl hb
  ·refine .inr ⟨b,cap,cur,hp,hh,h1,h2,h3,fun k x g1=>?_⟩
   obtain ⟨q1,v,q2,q3⟩:=h5 k x g1
   exact ⟨q1,v,q2,nof_rel hσ (List.all_eq_true.1 h x (List.mem_of_getElem? g1)) q3⟩
def nofSB (p:Nat × SB):Bool:=Nat.blt p.1 900 && match p.2.body with
 | some bd=>bd.nof
 | none=>true
theorem nofSB_ok {B:List (Nat × SB)} (h:B.all nofSB=true) {k:Nat} {bd:Body} (hb:(lkB B k).body=some bd):k<900/\bd.nof=true:=by
 obtain ⟨q,hq,rfl,e⟩:=lkB_some hb
 have:=List.all_eq_true.1 h q hq
 unfold nofSB at this
 rw [Bool.and_eq_true,e,hb] at this
 exact ⟨blt_lt this.1,this.2⟩
def slotB (ks:List Nat):AV->Bool
 | .own id ep _=>Nat.beq ep 0 && ks.any (Nat.beq id)
 | .ref id ep _=>Nat.beq ep 0 && ks.any (Nat.beq id)
 | x=>x.pu1
theorem any_beq {ks:List Nat} {id:Nat} (h:ks.any (Nat.beq id)=true):id∈ks:=by
 obtain ⟨k,hk,e⟩:=List.any_eq_true.1 h
 rw [Nat.eq_of_beq_eq_true e]
 exact hk
theorem slot_rel {W W':World} {F F':Nat->Prop} {μ μ':Mu} {σ σ':Sto} {ks:List Nat} (hF:∀b,F b->b<W.heap.size->W'.heap[b]?=W.heap[b]?/\F' b) (hk:∀id∈ks,μ' id=μ id/\∃bd,σ id=⟨0,some bd⟩) {x:AV} {v:Value} (h:slotB ks x=true) (hx:Rel W F μ σ x v):Rel W' F' μ' σ' x v:=by
 cases x with
 | own id ep off =>
  simp only [slotB,Bool.and_eq_true] at h
  obtain ⟨e1,bd0,e2⟩:=hk id (any_beq h.2)
  obtain rfl:ep=0:=Nat.eq_of_beq_eq_true h.1
  cases hx with
  | pure hp=>cases hp
  | own _ _ _ _ he h1 hv=>exact .own id 0 off v (Nat.zero_le _) h1 fun bd hb=>by rw [e1];exact hv bd0 e2
 | ref id ep k =>
  simp only [slotB,Bool.and_eq_true] at h
  obtain ⟨e1,bd0,e2⟩:=hk id (any_beq h.2)
  obtain rfl:ep=0:=Nat.eq_of_beq_eq_true h.1
  cases hx with
  | pure hp=>cases hp
  | ref _ _ _ _ he h1 hv=>exact .ref id 0 k v (Nat.zero_le _) h1 fun bd hb=>by rw [e1];exact hv bd0 e2
 | _=>exact .pure ((pu1_rel (by simpa only [slotB] using h) hx).keep (fun b h1 h2=>(hF b h1 h2).1) fun b h1 h2=>(hF b h1 h2).2)
theorem slot_T {ks:List Nat}:∀{T:List (Nat × AV)},T.all (fun p=>slotB ks p.2)=true->∀t,slotB ks (lkT T t)=true\/lkT T t = .any
 | [],_,t=>.inr rfl
 | p::T,h,t=>by
  rw [List.all_cons,Bool.and_eq_true] at h
  show slotB ks (cond (Nat.beq t p.1) p.2 (lkT T t))=true\/cond (Nat.beq t p.1) p.2 (lkT T t) = .any
  cases Nat.beq t p.1 with
  | true=>exact .inl h.1
  | false=>exact slot_T h.2 t
def prm (N:Nat):List Nat->List AV->(Nat->AV)->Nat->AV
 | t::ts,y::ys,f=>prm N ts ys (putS N f (some t) y)
 | _,_,f=>f
theorem prm_ok {W:World} {F:Nat->Prop} {μ:Mu} {σ:Sto} {N:Nat}:∀(ps:List Nat) (ys:List AV) (vs:List Value) (f:Nat->AV) (tm:Array Value),tm.size=N->ys.length=vs.length->(∀t,Rel W F μ σ (f t) (tm.getD t undef))->(∀(j:Nat) (y:AV) (v:Value),ys[j]?=some y->vs[j]?=some v->Rel W F μ σ y v) ->
  ((ps.zip vs).foldl (fun tmps (p:Nat × Value)=>tmps.setIfInBounds p.1 p.2) tm).size=N/\∀t,Rel W F μ σ (prm N ps ys f t) (((ps.zip vs).foldl (fun tmps (p:Nat × Value)=>tmps.setIfInBounds p.1 p.2) tm).getD t undef)
 | [],ys,vs,f,tm,hn,hl,h,_=>⟨hn,fun t=>h t⟩
 | p::ps,[],[],f,tm,hn,hl,h,_=>⟨hn,fun t=>h t⟩
 | p::ps,[],v::vs,f,tm,hn,hl,h,_=>by simp at hl
 | p::ps,y::ys,[],f,tm,hn,hl,h,_=>by simp at hl
 | p::ps,y::ys,v::vs,f,tm,hn,hl,h,hy=>by
  refine prm_ok ps ys vs (putS N f (some p) y) (tm.setIfInBounds p v) (by simpa using hn) (by simpa using hl) (fun t=>?_) (fun j y' v' h1 h2=>hy (j+1) y' v' h1 h2)
  rw [putS_eq]
  have:=getD_put { tmps:=tm,defers:=[] } (some p) v t
  simp only [Act.put,hn] at this
  rw [this]
  split
  ·exact hy 0 y v rfl rfl
  ·exact h t
theorem gl_slot {q:Nat->Option (Nat × Nat)} {ks:List Nat} {B:List (Nat × SB)} (hn:B.all nofSB=true) {W:World} {F:Nat->Prop} {μ:Mu} (hi:Inv W F μ (lkB B)) (hq:∀id∈ks,id<900/\q id=μ id):Inv W F (fun id=>if Nat.ble 900 id then none else μ id) (lkB (gl q ks B)):=by
  have lo:∀id,id<900->lkB (gl q ks B) id=lkB B id/\(if Nat.ble 900 id then none else μ id)=μ id:=fun id h=>⟨gl_lo h ks,by
    have:Nat.ble 900 id=false:=by
      cases e:Nat.ble 900 id
      · rfl
      · exact absurd (Nat.le_of_ble_eq_true e) (by omega)
    rw [this];rfl⟩
  have hi9:∀id,900<=id->(if Nat.ble 900 id then none else μ id)=(none:Option (Nat × Nat)):=fun id h=>by rw [Nat.ble_eq_true_of_le h];rfl
  have al:∀{id:Nat} {b c:Nat} {bd:Body},(lkB (gl q ks B) id).body=some bd->(if Nat.ble 900 id then none else μ id)=some (b,c)->(lkB B id).body=some bd/\μ id=some (b,c):=fun {id b c bd} h1 h2=>by
    by_cases h:id<900
    · rw [<- (lo id h).1,<- (lo id h).2];exact ⟨h1,h2⟩
    · rw [hi9 id (by omega)] at h2;cases h2
  refine ⟨fun id ep bd hb=>?_,fun b ⟨id,ep,bd,c,h1,h2⟩=>?_,fun id id' b c c' h1 h2 h3 h4=>?_,hi.old⟩
  · rcases gl_hi (show (lkB (gl q ks B) id).body=some bd by rw [hb]) with ⟨i,rfl,rfl⟩ | hB
    · have hin : i ∈ ks := by
        refine Classical.byContradiction fun hno=>?_
        have:∀ks':List Nat,i∉ks'->lkB (gl q ks' B) (900+i)=lkB B (900+i):=by
          intro ks'
          induction ks' with
          | nil=>intro _;rfl
          | cons a l ih =>
            intro h
            show cond (Nat.beq (900+i) (900+a)) _ (lkB (gl q l B) (900+i))=_
            rw [beq_f (fun e=>h (by rw [show i=a by omega];exact List.mem_cons_self))]
            exact ih fun h'=>h (List.mem_cons_of_mem _ h')
        rw [this ks hno] at hb
        have:=(nofSB_ok hn (show (lkB B (900+i)).body=some _ by rw [hb])).1
        omega
      refine ⟨hi9 _ (by omega),Nat.zero_le _,fun bd hbd=>?_⟩
      exact (lo i (hq i hin).1).2.trans (hq i hin).2.symm
    · obtain ⟨h1,h2⟩:=nofSB_ok hn hB
      have:=hi.body id (lkB B id).ep bd (by rw [<- hB])
      rw [(lo id h1).2]
      exact nofB_rel lo h2 this
  · obtain ⟨g1,g2⟩:=al (by rw [h1]) h2
    exact hi.apart b ⟨id,(lkB B id).ep,bd,c,by rw [<- g1],g2⟩
  · obtain ⟨bd,e1⟩:=Option.isSome_iff_exists.1 h1
    obtain ⟨bd',e2⟩:=Option.isSome_iff_exists.1 h2
    obtain ⟨g1,g2⟩:=al e1 h3
    obtain ⟨g3,g4⟩:=al e2 h4
    exact hi.inj id id' b c c' (by rw [g1];rfl) (by rw [g3];rfl) g2 g4
theorem gl_own {q:Nat->Option (Nat × Nat)} {ks:List Nat} {B:List (Nat × SB)} {μ:Mu} {b:Nat} (h:Own (fun id=>if Nat.ble 900 id then none else μ id) (lkB (gl q ks B)) b):Own μ (lkB B) b:=by
 obtain ⟨id,ep,bd,c,h1,h2⟩:=h
 by_cases h9:id<900
 ·have:Nat.ble 900 id=false:=by
   cases e:Nat.ble 900 id
   ·rfl
   ·exact absurd (Nat.le_of_ble_eq_true e) (by omega)
  replace h2:(if Nat.ble 900 id then none else μ id)=some (b,c):=h2
  rw [this] at h2
  rw [gl_lo h9] at h1
  exact ⟨id,ep,bd,c,h1,h2⟩
 ·replace h2:(if Nat.ble 900 id then none else μ id)=some (b,c):=h2
  rw [Nat.ble_eq_true_of_le (by omega)] at h2
  cases h2
abbrev onlyN (K:St->Prop):Exit->St->Prop:=thenA K fun _ _=>False
section
variable {α : Type} {P : Program} {N : Nat} {Q : Exit -> St -> Prop} {s : St} {g : Operand} {ps : Array Tmp} {assign body : Code} {f : FuncId} {caps ys : List AV} {enc : α -> List AV} {Nx : List α -> α -> Prop} {Fin : List α -> Prop}
def Rng (P:Program) (N:Nat) (W0:World) (F:Nat->Prop) (μ0:Mu) (σ0:Sto) (a:Act) (T:List (Nat × AV)) (G:List α->List (Nat × SB)) (rec:LoopState->Option Code->Loop):Option (List α)->(Nat->Prop)->World->Prop
 | none,_,_=>False
 | some pre,M,W=>∃μ,RS N W F μ (stL T (G pre)) { a with defers:={ target:=.collected W0.heap.size,args:=#[] }::a.defers }/\Stq W0 F μ0 σ0 W F μ (lkB (G pre))/\W.heap[W0.heap.size+1]?=some (.loop (rec .ready none)) /\
   (∀b,M b->W0.heap.size+2<=b)/\W0.heap.size+2<=W.heap.size/\(∀b,M b->¬Own μ (lkB (G pre)) b)/\¬Own μ (lkB (G pre)) (W0.heap.size+1)
theorem Rng.abd {W0:World} {F:Nat->Prop} {μ0:Mu} {σ0:Sto} {a:Act} {T:List (Nat × AV)} {G:List α->List (Nat × SB)} {rec:LoopState->Option Code->Loop} (hF:∀b,F b->b<W0.heap.size) (hds:∀D,({ target:=.collected D,args:=#[] }:Deferred)∈a.defers->D<W0.heap.size):Abd (Rng P N W0 F μ0 σ0 a T G rec):=by
  intro p M M' W1 W2 hj hk h1 h2
  cases p with
  | none=>exact hj
  | some pre =>
    obtain ⟨μ,hr,hs,hl,hm,hz,ho,hol⟩:=hj
    have nF:∀b,F b->¬M b:=fun b hb hM=>by have:=hF b hb;have:=hm b hM;omega
    have hr':RS N W2 F μ (stL T (G pre)) { a with defers:={ target:=.collected W0.heap.size,args:=#[] }::a.defers }:=by
      refine hr.heap hk.size (fun b hlt hb=>hk.block b hlt fun hM=>hb.elim (nF b · hM) (ho b hM)) (hr.defers.heap fun D hD=>?_)
      obtain ⟨e1,e2,e3⟩:=hr.defers.lt hD
      have hlt:=(Array.getElem?_eq_some_iff.1 e1).1
      refine hk.block D hlt fun hM=>?_
      have:=hm D hM
      rcases List.mem_cons.1 hD with e | e
      · obtain rfl:D=W0.heap.size:=by simpa using e
        omega
      · have:=hds D e
        omega
    refine ⟨μ,hr',⟨?_,hs.fro,hs.new,hs.own⟩,(hk.block _ (by omega) fun hM=>by have:=hm _ hM;omega).trans hl,fun b hb=>?_,Nat.le_trans hz hk.size,fun b hb=>?_,hol⟩
    · exact hs.kp.trans2 hk fun g hlt hM=>by have:=hm g hM;omega
    · rcases h2 b hb with h | h
      · exact hm b h
      · omega
    · rcases h2 b hb with h | h
      · exact ho b h
      · exact fun hown=>by have:=(hr.inv.apart b hown).1;omega
theorem BodyRel.toF {W:World} {F F':Nat->Prop} {μ:Mu} {σ:Sto} (hF:∀b,F b->F' b) {p:Option (Nat × Nat)} {bd:Body} (hb:BodyRel W F μ σ p bd):BodyRel W F' μ σ p bd:=by
 cases bd with
 | box t cs =>
  obtain ⟨b,c,vs,hp,hh,hl,hr⟩:=hb
  exact ⟨b,c,vs,hp,hh,hl,fun j x v h1 h2=>⟨(hr j x v h1 h2).1,(hr j x v h1 h2).2.toF hF⟩⟩
 | row t m els =>
  rcases hb with hb | ⟨b,cap,cur,hp,hh,h1,h2,h3,h4,h5⟩
  ·exact .inl hb
  ·refine .inr ⟨b,cap,cur,hp,hh,h1,h2,h3,h4,fun k cs j x g1 g2=>?_⟩
   obtain ⟨q1,v,q2,q3⟩:=h5 k cs j x g1 g2
   exact ⟨q1,v,q2,q3.to hF⟩
 | ghost id ep q=>exact hb
 | obj o=>exact hb
 | nest t els =>
  rcases hb with hb | ⟨b,cap,cur,hp,hh,h1,h2,h3,h5⟩
  ·exact .inl hb
  ·refine .inr ⟨b,cap,cur,hp,hh,h1,h2,h3,fun k x g1=>?_⟩
   obtain ⟨q1,v,q2,q3⟩:=h5 k x g1
   exact ⟨q1,v,q2,q3.toF hF⟩
theorem gl_nof {q:Nat->Option (Nat × Nat)} {ks:List Nat} {B:List (Nat × SB)} (hn:B.all nofSB=true) {W:World} {F F':Nat->Prop} {μ:Mu} {σ:Sto} {id:Nat} {bd:Body} (hb:(lkB (gl q ks B) id).body=some bd) {p:Option (Nat × Nat)} (h:BodyRel W F μ σ p bd):BodyRel W F' μ σ p bd:=by
 rcases gl_hi hb with ⟨i,rfl,rfl⟩ | hB
 ·exact h
 ·exact nofB_rel (fun id _=>⟨rfl,rfl⟩) (nofSB_ok hn hB).2 h
theorem AW.rangeFunc (hI : IDoes P f ys enc Nx Fin) (hg : s.ev g = .fn f [] caps) (hz : fzL s.σ 6 caps = some (ys, [])) (hps : ∀ x, (enc x).length = ps.size) (hrf : (hasRF assign || hasRF body) = false)
    (ks:List Nat) (T:List (Nat × AV)) (B:List α->List (Nat × SB)) (hT:WkT s (lkB (B [])) T) (hB:WkB s (lkB (B [])) (B [])) (hTs:T.all (fun p=>slotB ks p.2)=true)
    (hk:∀pre,∀id∈ks,id<900/\∃bd,lkB (B pre) id=⟨0,some bd⟩) (hn:∀pre,(B pre).all nofSB=true)
    (round:∀q pre x,Nx pre x->AW P N assign (onlyN fun s1=>AW P N body (onlyN fun s2=>WkB s2 (lkB (gl q ks (B (pre++[x])))) (gl q ks (B (pre++[x])))) s1) ⟨prm N ps.toList (enc x) (lkT T),lkB (gl q ks (B pre))⟩)
    (done:∀q pre,Fin pre->Q .normal (stL T (gl q ks (B pre)))):AW P N (.rangeFunc g ps assign body) Q s:=by
  intro W0 F μ0 a hr ro hro
  obtain rfl:=hro rfl
  obtain ⟨rf1,rf2⟩:hasRF assign=false/\hasRF body=false:=by simpa using hrf
  have hgv:=hr.ev g
  rw [hg] at hgv
  obtain ⟨fs,cs,hge,hfl,hcl,-,hcr⟩:=hgv.fn'
  obtain rfl:fs=[]:=List.length_eq_zero_iff.1 hfl
  have hcap:=(fzL_ok hz).rel (W:=W0) (F:=F) (μ:=μ0) hr.inv hcl hcr
  have hcap2:∀(j:Nat) (x:AV) (v:Value),ys[j]?=some x->cs[j]?=some v->PRel W0 F x v:=fun j x v h1 h2=>(hcap.2 j x v h1 h2).to fun b hb=>hb.elim (fun h=>h) fun ⟨_,h,_⟩=>by cases h
  have hF0:=hr.inv.old
  have hds:∀D,({ target:=.collected D,args:=#[] }:Deferred)∈a.defers->D<W0.heap.size:=fun D hD=>(Array.getElem?_eq_some_iff.1 (hr.defers.lt hD).1).1
  -- the state is told anew, with ghosts
  have hwk:Wk s (stL T (B [])):=⟨fun t=>wkT_ok hT t,wkB_ok hB⟩
  have hr1:=hwk.rs hr
  obtain ⟨q,hq⟩:∃q:Nat->Option (Nat × Nat),∀id,q id=μ0 id:=⟨μ0,fun _=>rfl⟩
  have hi1:=gl_slot (ks:=ks) (q:=q) (hn []) hr1.inv fun id hid=>⟨(hk [] id hid).1,hq id⟩
  have ho1:∀b,Own (fun id=>if Nat.ble 900 id then none else μ0 id) (lkB (gl q ks (B []))) b->Own μ0 s.σ b:=fun b hb=>hwk.own (gl_own hb)
  have hs1:Stq W0 F μ0 s.σ W0 F (fun id=>if Nat.ble 900 id then none else μ0 id) (lkB (gl q ks (B []))):=⟨Kp.refl _ _,fun _ h=>h,fun _ h=>.inl h,fun b hb=>.inl (ho1 b hb)⟩
  have hmu:∀id∈ks,(if Nat.ble 900 id then none else μ0 id)=μ0 id:=fun id hid=>by
    have h9:=(hk [] id hid).1
    have:Nat.ble 900 id=false:=by
      cases e:Nat.ble 900 id
      · rfl
      · exact absurd (Nat.le_of_ble_eq_true e) (by omega)
    rw [this];rfl
  have ht1:∀t,Rel W0 F (fun id=>if Nat.ble 900 id then none else μ0 id) (lkB (gl q ks (B []))) (lkT T t) (a.tmps.getD t undef):=fun t=>by
    rcases slot_T hTs t with h | h
    · exact slot_rel (μ:=μ0) (σ:=lkB (B [])) (fun b h1 h2=>⟨rfl,h1⟩) (fun id hid=>⟨hmu id hid,(hk [] id hid).2⟩) h (hr1.ts t)
    · rw [h];exact .any _
  generalize (fun id=>if Nat.ble 900 id then none else μ0 id)=μ1 at hi1 ho1 hs1 ht1
  have hr2:RS N W0 F μ1 (stL T (gl q ks (B []))) a:=⟨ht1,hr.defers.go hs1,hr.n,hi1⟩
  refine wpIn_rangeFunc ?_
  intro fn hfn
  obtain ⟨rec,hrec⟩:∃rec:LoopState->Option Code->Loop,rec=fun st pe=>{ state:=st,pending:=pe,fn,tmps:=a.tmps,params:=ps,assign,body,defers:=W0.heap.size }:=⟨_,rfl⟩
  obtain ⟨W1,hW1⟩:∃W1,(W0.alloc (.deferred (some []))).alloc (.loop (rec .ready none))=W1:=⟨_,rfl⟩
  have hz1:W1.heap.size=W0.heap.size+2:=by rw [<- hW1];simp
  have hL1:W1.heap[W0.heap.size+1]?=some (.loop (rec .ready none)):=by
    rw [<- hW1];have:=World.alloc_heap_new (W0.alloc (.deferred (some []))) (.loop (rec .ready none));rwa [World.size_alloc] at this
  have hK1:W1.heap[W0.heap.size]?=some (.deferred (some [])):=by
    rw [<- hW1];exact (Below.heap_alloc _ _ _ (by simp)).trans (World.alloc_heap_new W0 _)
  have hk1:Kp No W0 W1:=by rw [<- hW1];exact ((Kp.refl No W0).alloc _).alloc _
  have hr3:RS N W1 F μ1 (stL T (gl q ks (B []))) { a with defers:={ target:=.collected W0.heap.size,args:=#[] }::a.defers }:=by
    refine hr2.heap hk1.size (fun b hlt _=>hk1.block b hlt fun h=>h) ?_
    obtain ⟨Ds,d1,d2,d3⟩:=hr2.defers
    refine ⟨W0.heap.size::Ds,List.nodup_cons.2 ⟨fun h=>?_,d1⟩,by rw [List.map_cons,d2],fun D hD=>?_⟩
    · have:=(Array.getElem?_eq_some_iff.1 (d3 _ h).1).1
      omega
    · rcases List.mem_cons.1 hD with rfl | h
      · exact ⟨hK1,fun h=>by have:=hF0 _ h;omega,fun h=>by have:=(hi1.apart _ h).1;omega⟩
      · have hlt:=(Array.getElem?_eq_some_iff.1 (d3 _ h).1).1
        exact ⟨(hk1.block D hlt fun h=>h).trans (d3 D h).1,(d3 D h).2⟩
  obtain ⟨fn0,bd0,g1,g2,g3⟩:=hI.fn
  have eg:∀args w,(callFunc f args).run P w = .ok (.enter f args) w:=fun args w=>by
    have g3' : ¬ fn0.name = "runtime.NumGoroutine" := by simpa using g3
    simp [callFunc,program,g1,g2,g3',Sem.run]
  refine ⟨W0.heap.size+1,[{ target:=.collected W0.heap.size,args:=#[] }],W1,{ target:=.fn (.func f) cs.toArray,args:=#[.func (.yield (W0.heap.size+1)) #[] #[]] },W1,f,
    #[.func (.yield (W0.heap.size+1)) #[] #[]]++cs.toArray,W1,?_,?_,fun _ _=>trivial,?_,fun e=>(by cases e),?_⟩
  · rw [<- hW1,hrec];exact run_enterLoop_outer _ _ _ _ _
  · simp only [resolve,hge]
    simp [go_sem]
  · simp [invoke,go_sem,eg]
  · have hj0 : Rng P N W0 F μ0 s.σ a T (fun pre => gl q ks (B pre)) rec (some []) (fun _ => False) W1 :=
      ⟨μ1,hr3,⟨hk1.mono fun k _ h=>h.elim,hs1.fro,fun b hb=>(hs1.new b hb),hs1.own⟩,hL1,fun b h=>h.elim,by omega,fun b h=>h.elim,fun h=>by have:=(hi1.apart _ h).1;omega⟩
    have hcall:=hI.calls W1 F cs (hcap.1.symm) (fun j x v h1 h2=>(hcap2 j x v h1 h2).keep (fun b _ hlt=>hk1.block b hlt fun h=>h) fun b hb _=>hb) (fun b hb=>by have:=hF0 b hb;omega) (W0.heap.size+1) _ (Rng.abd (P:=P) (N:=N) (μ0:=μ0) (σ0:=s.σ) (T:=T) (G:=fun pre=>gl q ks (B pre)) (rec:=rec) hF0 hds) ?_ hj0
    · have e0:#[Value.func (.yield (W0.heap.size+1)) #[] #[]]++cs.toArray=(Value.func (.yield (W0.heap.size+1)) #[] #[]::cs).toArray:=by simp
      rw [e0]
      refine ((callsR none).2 hcall).mono ?_
      rintro e W2 ⟨⟨v,rfl⟩,M,hj | ⟨pre,hfin,μ2,hr4,hs4,hl4,hm4,hz4,hom,hol⟩⟩
      · exact hj.elim
      · have hend:=run_endLoop (P:=P) hl4 (by rw [hrec];simp)
        refine ⟨none,W2.putObj (W0.heap.size+1) (.loop { rec .ready none with state:=.exhausted }),by rw [hrec] at hend ⊢;exact hend,?_⟩
        have hkl:∀b,b≠W0.heap.size+1->(W2.putObj (W0.heap.size+1) (.loop { rec .ready none with state:=.exhausted })).heap[b]?=W2.heap[b]?:=fun b h=>World.putObj_heap_other h
        refine ⟨F,μ2,_,done q pre hfin,?_,⟨⟨?_,hs4.fro,hs4.new,hs4.own⟩,fun d hd=>?_⟩⟩
        · have := hr4.heap (W' := W2.putObj (W0.heap.size + 1) (.loop { rec .ready none with state := .exhausted })) (by simp) (fun b hlt hb => hkl b fun e => by
            subst e
            rcases hb with hb | hb
            · have:=hF0 _ hb;omega
            · exact hol hb) (hr4.defers.heap fun D hD=>hkl D fun e=>by
              subst e
              rw [(hr4.defers.lt hD).1] at hl4
              cases hl4)
          exact this
        · refine hs4.kp.trans2 (S':=fun b=>b=W0.heap.size+1) ⟨rfl,rfl,rfl,by simp,fun b _ h=>hkl b h⟩ fun g hlt e=>?_
          omega
        · rcases List.mem_cons.1 hd with rfl | h
          · exact .inr ⟨_,rfl,Nat.le_refl _⟩
          · exact .inl h
    · -- one round
      rintro pre x M W vs ⟨μk,hrk,hsk,hlk,hmk,hzk,homk,holk⟩ hnx hMlt hvl hvr
      have hsize:vs.toArray.size=(rec .ready none).params.size:=by rw [hrec];simp [hvl,hps x]
      have hy:=run_yield (P:=P) (args:=vs.toArray) hlk hsize
      refine ⟨_,_,_,_,hy,?_⟩
      subst hrec
      have hlt:W0.heap.size+1<W.heap.size:=by omega
      have nM:¬M (W0.heap.size+1):=fun h=>by have:=hmk _ h;omega
      have nF:¬F (W0.heap.size+1):=fun h=>by have:=hF0 _ h;omega
      refine roundIn_of_wpIn trivial ?_
      have hpr:=prm_ok (W:=W) (F:=fun b=>F b\/M b) (μ:=μk) (σ:=lkB (gl q ks (B pre))) ps.toList (enc x) vs (lkT T) a.tmps hrk.n hvl.symm (fun t=>(hrk.ts t).toF fun b hb=>.inl hb) (fun j y v h1 h2=>.pure (hvr j y v h1 h2))
      have hfold:(ps.zip vs.toArray).foldl (fun tmps (t,a)=>tmps.setIfInBounds t a) a.tmps=(ps.toList.zip vs).foldl (fun tmps (p:Nat × Value)=>tmps.setIfInBounds p.1 p.2) a.tmps:=by
        rw [<- Array.foldl_toList,Array.toList_zip]
      show Code.wpIn _ _ _ _ _ { tmps:=(ps.zip vs.toArray).foldl (fun tmps (t,a)=>tmps.setIfInBounds t a) a.tmps,defers:=[] } W
      rw [hfold]
      generalize (ps.toList.zip vs).foldl (fun tmps (p:Nat × Value)=>tmps.setIfInBounds p.1 p.2) a.tmps=tm at hpr
      have hrX:RS N W (fun b=>F b\/M b) μk ⟨prm N ps.toList (enc x) (lkT T),lkB (gl q ks (B pre))⟩ { tmps:=tm,defers:=[] } :=
        ⟨hpr.2,.nil,hpr.1,⟨fun id ep bd hb=>(hrk.inv.body id ep bd hb).toF fun b hb=>.inl hb,fun b hb=>⟨(hrk.inv.apart b hb).1,fun h=>h.elim (hrk.inv.apart b hb).2 fun hm=>homk b hm hb⟩,hrk.inv.inj,fun b hb=>hb.elim (hrk.inv.old b) (hMlt b)⟩⟩
      refine wpIn_mono (round q pre x hnx W _ μk _ hrX (some (W0.heap.size+1)) (fun h=>by rw [rf1] at h;cases h)) ?_
      rintro e a1 w1 ⟨F1,μa,s1,hq1,hra,hsa⟩
      cases e with
      | normal =>
        have hl1:=(hsa.kp.block _ hlt holk).trans hlk
        have nO1:¬Own μa s1.σ (W0.heap.size+1):=fun h=>by
          rcases hsa.own _ h with h | h
          · exact holk h
          · omega
        have nF1:¬F1 (W0.heap.size+1):=fun h=>by
          rcases hsa.new _ h with (h | h) | h | h
          · exact nF h
          · exact nM h
          · exact holk h
          · omega
        refine ⟨_,run_beginRound hl1 rfl,?_⟩
        generalize hw2:w1.putObj (W0.heap.size+1) _=w2
        have hkl:∀b,b≠W0.heap.size+1->w2.heap[b]?=w1.heap[b]?:=fun b h=>by rw [<- hw2];exact World.putObj_heap_other h
        have hz2:w2.heap.size=w1.heap.size:=by rw [<- hw2];simp
        have hl2:w2.heap[W0.heap.size+1]?=some (.loop { state:=.busy,pending:=none,fn,tmps:=a.tmps,params:=ps,assign,body,defers:=W0.heap.size }):=by
          rw [<- hw2];exact World.putObj_heap_same (Array.getElem?_eq_some_iff.1 hl1).1
        have hkp2:Kp (fun b=>b=W0.heap.size+1) w1 w2:=by rw [<- hw2];exact ⟨rfl,rfl,rfl,by simp,fun b _ h=>World.putObj_heap_other h⟩
        have hrb:RS N w2 F1 μa s1 a1:=hra.heap (by omega) (fun b _ hb=>hkl b fun e=>by subst e;exact hb.elim nF1 nO1) (hra.defers.heap fun D hD=>hkl D fun e=>by
          subst e
          rw [(hra.defers.lt hD).1] at hl1
          cases hl1)
        refine wpIn_mono (hq1 w2 F1 μa a1 hrb (some (W0.heap.size+1)) (fun h=>by rw [rf2] at h;cases h)) ?_
        rintro e a3 W3 ⟨F3,μ3,s3,hq3,hr3,hs3⟩
        cases e with
        | normal =>
          have hsz1:=hsa.kp.size
          have hsz3:=hs3.kp.size
          have hl3:=(hs3.kp.block _ (by omega) nO1).trans hl2
          -- from the round's beginning to its end
          have own3:∀b,Own μ3 s3.σ b->Own μk (lkB (gl q ks (B pre))) b\/W.heap.size<=b:=fun b hb=>by
            rcases hs3.own b hb with h | h
            · exact hsa.own b h
            · exact .inr (by omega)
          have kp3:Kp (fun b=>Own μk (lkB (gl q ks (B pre))) b\/b=W0.heap.size+1) W W3:=by
            refine (hsa.kp.mono fun k _ h=>.inl h).trans2 ((hkp2.mono fun k _ h=>.inl h).trans2 (S':=Own μa s1.σ) (S:=fun b=>b=W0.heap.size+1\/Own μa s1.σ b) hs3.kp fun g _ h=>.inr h) fun g hlt' h=>?_
            rcases h with h | h
            · exact .inr h
            · rcases hsa.own g h with h | h
              · exact .inl h
              · omega
          have hw3:Wk s3 ⟨fun _=>.any,lkB (gl q ks (B (pre++[x])))⟩:=⟨fun _=>.any _,wkB_ok hq3⟩
          have hr3':=hw3.rs hr3
          have own3':∀b,Own μ3 (lkB (gl q ks (B (pre++[x])))) b->Own μk (lkB (gl q ks (B pre))) b\/W.heap.size<=b:=fun b hb=>own3 b (hw3.own hb)
          have fF:∀b,F b->F3 b:=fun b hb=>hs3.fro b (hsa.fro b (.inl hb))
          have hinv:Inv W3 F μ3 (lkB (gl q ks (B (pre++[x])))):=⟨fun id ep bd hb=>gl_nof (hn _) (show (lkB (gl q ks (B (pre++[x]))) id).body=some bd by rw [show lkB (gl q ks (B (pre++[x]))) id=_ from hb]) (hr3'.inv.body id ep bd hb),fun b hb=>⟨(hr3'.inv.apart b hb).1,fun h=>(hr3'.inv.apart b hb).2 (fF b h)⟩,hr3'.inv.inj,fun b hb=>hr3'.inv.old b (fF b hb)⟩
          have mu3:∀id∈ks,μ3 id=μk id:=fun id hid=>by
            have h1:=hrk.inv.body (900+id) 0 (.ghost id 0 (q id)) (gl_at hid)
            have h3:=hinv.body (900+id) 0 (.ghost id 0 (q id)) (gl_at hid)
            obtain ⟨h9,bd0,e0⟩:=hk pre id hid
            obtain ⟨_,bd1,e1⟩:=hk (pre++[x]) id hid
            have q1:=h1.2.2 bd0 ((gl_lo h9 ks).trans e0)
            have q3:=h3.2.2 bd1 ((gl_lo h9 ks).trans e1)
            rw [q1,q3]
          have nFk:∀b,F b->b<W.heap.size->W3.heap[b]?=W.heap[b]?/\F b:=fun b hb hlt'=>⟨kp3.block b hlt' fun h=>by
            rcases h with h | h
            · exact (hrk.inv.apart b h).2 hb
            · subst h;exact nF hb,hb⟩
          have hts:∀t,Rel W3 F μ3 (lkB (gl q ks (B (pre++[x])))) (lkT T t) (a.tmps.getD t undef):=fun t=>by
            rcases slot_T hTs t with h | h
            · refine slot_rel (μ:=μk) (σ:=lkB (gl q ks (B pre))) nFk (fun id hid=>⟨mu3 id hid,?_⟩) h (hrk.ts t)
              obtain ⟨h9,bd0,e0⟩:=hk pre id hid
              exact ⟨bd0,(gl_lo h9 ks).trans e0⟩
            · rw [h];exact .any _
          have hrJ:RS N W3 F μ3 (stL T (gl q ks (B (pre++[x])))) { a with defers:={ target:=.collected W0.heap.size,args:=#[] }::a.defers }:=by
            refine ⟨hts,?_,hr.n,hinv⟩
            obtain ⟨Ds,d1,d2,d3⟩:=hrk.defers
            refine ⟨Ds,d1,d2,fun D hD=>?_⟩
            obtain ⟨e1,e2,e3⟩:=d3 D hD
            have hDl:=(Array.getElem?_eq_some_iff.1 e1).1
            refine ⟨(kp3.block D hDl fun h=>?_).trans e1,e2,fun h=>?_⟩
            · rcases h with h | h
              · exact e3 h
              · subst h;rw [hlk] at e1;cases e1
            · rcases own3' D h with h | h
              · exact e3 h
              · omega
          have hend:=run_endRound (P:=P) none hl3
          have nO3:¬Own μ3 (lkB (gl q ks (B (pre++[x])))) (W0.heap.size+1):=fun h=>by
            rcases own3' _ h with h | h
            · exact holk h
            · omega
          refine ⟨_,_,hend,true,rfl,⟨μ3,?_,?_,?_,hmk,?_,fun b hM hb=>?_,nO3⟩,?_⟩
          · refine hrJ.heap (by simp) (fun b _ hb=>World.putObj_heap_other fun e=>?_) (hrJ.defers.heap fun D hD=>World.putObj_heap_other fun e=>?_)
            · subst e
              exact hb.elim nF nO3
            · subst e
              rw [(hrJ.defers.lt hD).1] at hl3
              cases hl3
          · refine ⟨hsk.kp.trans2 (S':=fun b=>Own μk (lkB (gl q ks (B pre))) b\/b=W0.heap.size+1) (kp3.trans2 (S':=fun b=>b=W0.heap.size+1) ⟨rfl,rfl,rfl,by simp,fun b _ h=>World.putObj_heap_other h⟩ fun g _ h=>.inr h) fun g hlt' h=>?_,fun b hb=>hb,fun b hb=>.inl hb,fun b hb=>?_⟩
            · rcases h with h | h
              · rcases hsk.own g h with h | h
                · exact h
                · omega
              · omega
            · rcases own3' b hb with h | h
              · exact hsk.own b h
              · exact .inr (by omega)
          · exact World.putObj_heap_same (Array.getElem?_eq_some_iff.1 hl3).1
          · rw [show ∀(W:World) (l:Nat) (o:Obj),(W.putObj l o).heap.size=W.heap.size from fun _ _ _=>by simp]
            omega
          · rcases own3' b hb with h | h
            · exact homk b hM h
            · have:=hMlt b hM
              omega
          · refine (kp3.mono (S':=fun b=>¬F b/\¬M b) fun b hb h=>?_).trans2 (S':=fun b=>b=W0.heap.size+1) ⟨rfl,rfl,rfl,by simp,fun b _ h=>World.putObj_heap_other h⟩ fun g _ h=>?_
            · rcases h with h | h
              · exact ⟨(hrk.inv.apart b h).2,fun hM=>homk b hM h⟩
              · subst h;exact ⟨nF,nM⟩
            · subst h;exact ⟨nF,nM⟩
        | _=>exact hq3.elim
      | _=>exact hq1.elim
end
end Go.Proofs.YtoaibdbehlcnfaaGreat.Sm
end
section
namespace Go.Proofs.YtoaibdbehlcnfaaGreat.Sm
open Go.RowKit
theorem d_rsound (c:Cf) (V:Int):PDoes Tryz.prog 65 [.agg (cCf c),.i .i64 V] (.i .i64 (malE c V)):=by
  refine PDoes.of_bodyN Tryz.func65 rfl (by kernel_rfl) rfl rfl ?_
  by_cases h0:c.sound=0
  rotate_left
  · have e:malE c V=c.sound:=by rw [malE,if_neg h0]
    rw [e]
    refine jA ?_
    refine RG.callS rfl rfl rfl rfl rfl (d_CSound c) rfl rfl ?_;refine wH rfl ?_;refine jA ?_
    refine AW.cond rfl (fun h=>?_) (fun h=>?_)
    rotate_left
    · exact absurd (by simpa using h) h0
    refine jA ?_
    refine AW.ret (retQA ty_ok rfl rfl rfl ?_)
    rfl
  have hCS:=d_CSound c
  rw [h0] at hCS
  refine jA ?_
  refine RG.callS rfl rfl rfl rfl rfl hCS rfl rfl ?_;refine wH rfl ?_;refine jA ?_
  refine AW.condF rfl ?_;refine jB ?_
  refine AW.text ?_
  by_cases g1:V<0
  · refine RG.runO ty_ok 0 [(12,.b true)] 400 rfl jD ?_
    have e:malE c V=4:=by rw [malE,if_pos h0,if_pos (by omega)]
    rw [e]
    refine jB ?_;refine AW.condT rfl ?_;refine jA ?_
    refine AW.ret (retQA ty_ok rfl rfl rfl ?_)
    rfl
  · by_cases g2:V>255
    · refine RG.runO ty_ok 0 [(12,.b false),(15,.b true)] 400 rfl jD ?_
      have e:malE c V=4:=by rw [malE,if_pos h0,if_pos (by omega)]
      rw [e]
      refine jB ?_;refine AW.condT rfl ?_;refine jA ?_
      refine AW.ret (retQA ty_ok rfl rfl rfl ?_)
      rfl
    · refine RG.runO ty_ok 0 [(12,.b false),(15,.b false)] 400 rfl jD ?_
      have e:malE c V=0:=by rw [malE,if_pos h0,if_neg (by omega)]
      rw [e]
      refine jB ?_;refine AW.condF rfl ?_;refine jA ?_
      refine AW.ret (retQA ty_ok rfl rfl rfl ?_)
      rfl
def lookE (c:Cf) (V:Int):Int:=bif decide (malE c V=0) then (bif decide ((askedOf c V).length>500) then 10 else (atomsOf (sortG (askedOf c V))).2) else malE c V
def lookA (c:Cf) (V:Int):List Atom:=(atomsOf (sortG (askedOf c V))).1
def cLk (c:Cf) (V:Int) (list:List Atom):List AV:=cCf c++[.i .i64 V,.sl (list.map cAtom)]
def lookR (c:Cf) (V:Int):AV:=bif decide (lookE c V=0) then .tup [.ro (cLk c V (lookA c V)),.i .i64 0] else .tup [.raw (.pointer none),.i .i64 (lookE c V)]
theorem d_look (c:Cf) (V:Int) (hL:c.Lens):PDoes Tryz.prog 57 [.agg (cCf c),.i .i64 V] (lookR c V):=by
  refine PDoes.of_bodyN Tryz.func57 rfl (by kernel_rfl) rfl rfl ?_
  rw [lookR]
  have hm:=d_rsound c V
  by_cases h1:malE c V=0
  rotate_left
  · have e:lookE c V=malE c V:=by rw [lookE,decide_eq_false h1];rfl
    rw [e,decide_eq_false h1]
    refine jA ?_
    refine RG.callS rfl rfl rfl rfl rfl hm rfl rfl ?_;refine wH rfl ?_;refine jA ?_
    refine AW.cond rfl (fun h=>?_) (fun h=>?_)
    rotate_left
    · exact absurd (by simpa using h) h1
    refine jA ?_
    refine AW.ret (retQA ty_ok rfl rfl rfl ?_)
    rfl
  have e:lookE c V=bif decide ((askedOf c V).length>500) then 10 else (atomsOf (sortG (askedOf c V))).2:=by rw [lookE,decide_eq_true h1];rfl
  rw [h1] at hm
  rw [malE] at h1
  split at h1
  · rename_i h0
    split at h1
    · cases h1
    rename_i hV
    obtain ⟨v,rfl⟩:∃v:Nat,V=v:=⟨V.toNat,by omega⟩
    have hV:v<=255:=by omega
    have hOf:=d_OfG c v hV h0 hL
    rw [ofR] at hOf
    refine jA ?_
    refine RG.callS rfl rfl rfl rfl rfl hm rfl rfl ?_;refine wH rfl ?_;refine jA ?_
    refine AW.condF rfl ?_;refine jA ?_
    by_cases h2:(askedOf c v).length>500
    · rw [decide_eq_true h2] at hOf e
      rw [e]
      refine RG.callMS rfl rfl rfl rfl rfl rfl hOf rfl ?_;refine wH rfl ?_;refine jA ?_
      refine AW.condT rfl ?_;refine jA ?_
      refine AW.ret (retQA ty_ok rfl rfl rfl ?_)
      rfl
    rw [decide_eq_false h2] at hOf e
    rw [cond_false] at e
    rw [e]
    refine RG.callMS rfl rfl rfl rfl rfl rfl hOf rfl ?_;refine wH rfl ?_;refine jA ?_
    refine AW.condF rfl ?_;refine jA ?_
    refine RG.callMS rfl rfl rfl rfl rfl rfl (d_Split (sortG (askedOf c v))) rfl ?_;refine wH rfl ?_;refine jA ?_
    refine AW.cond rfl (fun h3=>?_) (fun h3=>?_)
    · have h3:¬(atomsOf (sortG (askedOf c v))).2=0:=by simpa using h3
      rw [decide_eq_false h3,cond_false]
      refine jA ?_
      refine AW.ret (retQA ty_ok rfl rfl rfl ?_)
      rfl
    · have h3:(atomsOf (sortG (askedOf c v))).2=0:=by simpa using h3
      rw [decide_eq_true h3,cond_true]
      refine jA ?_
      refine AW.ret (retQA ty_ok rfl rfl rfl ?_)
      rfl
  · rename_i h0
    exact absurd h1 h0
end Go.Proofs.YtoaibdbehlcnfaaGreat.Sm
end
section
namespace Go.Proofs.YtoaibdbehlcnfaaGreat.Sm
open Go.RowKit
theorem d_runs (c:Cf) (v:Int) (list:List Atom) (s:Sp):PDoes Tryz.prog 69 [.ro (cLk c v list),.agg (cSp s)] (.fn 118 [] [.ro [.ro (cLk c v list)],.ro (cSp s)]):=by
 refine PDoes.of_bodyN Tryz.func69 rfl (by kernel_rfl) rfl rfl ?_
 refine jA ?_
 refine AW.ret (retQA ty_ok rfl rfl rfl ?_)
 rfl
def encR (c:Cf) (v:Int) (s:Sp) (list:List Atom) (k:Nat):List AV:=[.agg (cHd (list.getD k ⟨[],Hd.zero,[]⟩).head),.agg (cRun (runOf c s (list.getD k ⟨[],Hd.zero,[]⟩).head v 10800))]
theorem i_runs (c : Cf) (h0 : c.sound = 0) (hL : LooksOk c) (s : Sp) (hs : s ∈ edges c.topo.ports) (v : Nat) (hV : v <= 255) (list : List Atom) :
    IDoes Tryz.prog 118 [.ro [.ro (cLk c v list)],.ro (cSp s)] (encR c v s list) (fun pre k=>pre=List.range k/\k<list.length) (fun pre=>pre=List.range list.length):=by
  refine IDoes.of_body Tryz.func118 rfl (by kernel_rfl) rfl rfl rfl fun F0 l J hJ hy=>?_
  refine AWJ.fst hJ ?_
  refine jA ?_
  refine AWJ.block ?_
  refine AW.lensJ hJ 11 rfl fun hml=>?_
  rw [List.length_map] at hml
  refine AWJ.loopL (ι:=Nat) (fun k=>[(0,.raw (.func (.yield l) #[] #[])),(1,.ro [.ro (cLk c v list)]),(2,.ro (cSp s)),(11,.sl (list.map cAtom)),(12,.i .i64 (list.map cAtom).length),(13,.i .i64 (k:Nat))]) (fun _=>[]) (fun k=>some (List.range k)) (fun k=>k<=list.length) (fun k=>list.length - k) 0 (Nat.zero_le _) rfl ⟨Rn.is rfl rfl,Rn.is rfl rfl,Rn.is rfl rfl,Rn.is rfl rfl,Rn.is rfl rfl,Rn.is rfl rfl,trivial⟩ trivial fun k hk=>?_
  refine AWJ.fst hJ ?_
  refine jA ?_
  refine AWJ.fst hJ ?_
  refine AW.cond rfl (fun h2=>?_) (fun h2=>?_)
  rotate_left
  · have h:¬k<list.length:=by simpa using h2
    obtain rfl:k=list.length:=by omega
    refine AW.exit ?_
    refine Eq.mpr (if_pos rfl) ?_
    exact ⟨.inl rfl,.inr ⟨_,rfl,rfl⟩⟩
  have h:k<list.length:=by simpa using h2
  refine AW.skip ?_
  refine AWJ.seq (AWJ.block ?_)
  refine AWJ.fst hJ ?_
  refine AW.text ?_
  refine RG.opS rfl (op_index rfl (tab_ok ty_ok rfl) rfl (tab_ok ty_ok rfl) rfl rfl (show (list.map cAtom)[k]?=some (cAtom list[k]) by rw [List.getElem?_map,List.getElem?_eq_getElem (by assumption)];rfl) rfl) rfl ?_
  have hget:list.getD k ⟨[],Hd.zero,[]⟩=list[k]:=by rw [List.getD_eq_getElem?_getD,List.getElem?_eq_getElem h];rfl
  have henc:encR c v s list k=[.agg (cHd list[k].head),.agg (cRun (runOf c s list[k].head v 10800))]:=by rw [encR,hget]
  generalize list[k]=a at henc
  have hR:=d_Run c h0 hL s hs a.head v hV
  generalize runOf c s a.head v 10800=r at henc hR
  refine wH rfl ?_;refine jA ?_
  refine AWJ.fst hJ ?_
  refine jA ?_
  refine RG.callMS rfl rfl rfl rfl rfl rfl hR rfl ?_;refine wH rfl ?_;refine jA ?_
  refine AWJ.seq (AWJ.yield hJ hy 4 k ⟨rfl,h⟩ rfl rfl rfl ?_)
  refine wH rfl ?_
  refine RG.nil ⟨rfl,rfl,⟨_,_,rfl,?_⟩,fun go=>?_⟩
  · rw [henc];rfl
  refine wH rfl ?_
  refine RG.nil ?_
  cases go
  · refine AWJ.lift hJ (AW.cond rfl (fun _=>AW.ret ?_) (fun h=>by cases h))
    exact ⟨.inr rfl,.inl rfl⟩
  · refine AWJ.lift hJ (AW.cond rfl (fun h=>by cases h) (fun _=>AW.skip ?_))
    refine AWJ.lift hJ ?_
    refine jA ?_
    exact ⟨k+1,⟨h,by omega⟩,congrArg some List.range_succ.symm,⟨fun t=>wkT_ok (l:=[(0,.raw (.func (.yield l) #[] #[])),(1,.ro [.ro (cLk c v list)]),(2,.ro (cSp s)),(11,.sl (list.map cAtom)),(12,.i .i64 (list.map cAtom).length),(13,.i .i64 (k+1:Nat))]) ⟨Rn.is rfl rfl,Rn.is rfl rfl,Rn.is rfl rfl,Rn.is rfl rfl,Rn.is rfl rfl,Rn.is (i64_next h hml) rfl,trivial⟩ t,fun id bd' hb=>by cases hb⟩⟩
end Go.Proofs.YtoaibdbehlcnfaaGreat.Sm
end
section
namespace Go.Proofs.YtoaibdbehlcnfaaGreat.Sm
open Go.RowKit
theorem goF_at {c:Cf} (hc:c.Ok):∀(f n t:Nat) (h:Hd) (pre:List Hop),At c n t->((goF c f n t h pre).fin=2/\(goF c f n t h pre).at_∈edges c.topo.ports)\/((goF c f n t h pre).fin≠2/\(goF c f n t h pre).at_=Sp.zero)
 | 0,n,t,h,pre,_=>.inr ⟨show (4:Int)≠2 from by decide,rfl⟩
 | f+1,n,t,h,pre,hat=>by
  rw [goF]
  cases hq:fnd (tabOf c n t) h with
  | none=>exact .inr ⟨show (3:Int)≠2 from by decide,rfl⟩
  | some r =>
   obtain ⟨_,hr,_⟩:=fnd_lt hq
   dsimp only
   revert hr
   generalize (tabOf c n t).getD r Rl.zero=q
   intro hr
   by_cases k4:q.act.kind=4
   ·rw [if_pos k4]
    exact goF_at hc f _ _ _ _ (hat.goto hc hr k4)
   rw [if_neg k4]
   by_cases k3:q.act.kind=3
   ·rw [if_pos k3]
    exact goF_at hc f _ _ _ _ (hat.forward hc hr k3)
   rw [if_neg k3]
   by_cases k2:q.act.kind=2
   ·rw [if_pos k2]
    refine .inl ⟨rfl,?_⟩
    obtain ⟨h1,_⟩:=hat.rule hc hr
    obtain ⟨h3,h4,h5⟩:=Rl.does_deliver (Rl.sound_does h1).2.2 k2
    obtain ⟨a,ha⟩:=Int.eq_ofNat_of_zero_le h3
    rw [ha] at h4 h5 ⊢
    have hn:n<c.topo.ports.length:=by have:=hat.sw;have:=hc.len;omega
    have e1:c.topo.ports.getD n []=c.topo.ports[n]:=by rw [List.getD_eq_getElem?_getD,List.getElem?_eq_getElem hn];rfl
    rw [e1] at h4 h5
    have hlt:a<c.topo.ports[n].length:=by omega
    rw [Int.toNat_natCast,List.getD_eq_getElem?_getD,List.getElem?_eq_getElem hlt] at h5
    exact edges_mem.2 ⟨n,_,a,_,List.getElem?_eq_getElem hn,List.getElem?_eq_getElem hlt,h5,rfl⟩
   rw [if_neg k2]
   exact .inr ⟨show (1:Int)≠2 from by decide,rfl⟩
theorem runOf_at {c:Cf} (hc:c.Ok) {s:Sp} (hs:s∈edges c.topo.ports) (h:Hd) (v:Int) (most:Nat):((runOf c s h v most).fin=2/\(runOf c s h v most).at_∈edges c.topo.ports)\/((runOf c s h v most).fin≠2/\(runOf c s h v most).at_=Sp.zero):=by
 rw [runOf]
 obtain ⟨n,r,a,p,hr,hp,hk,rfl⟩:=edges_mem.1 hs
 refine goF_at hc _ _ _ _ _ (At.start hc ?_)
 have:=(List.getElem?_eq_some_iff.1 hr).1
 simp only [Int.toNat_natCast]
 omega
def Sp.small (s:Sp):Prop:=(0<=s.sw/\s.sw<=1000000)/\0<=s.port/\s.port<=1000000
theorem edges_small {t:List (List Pt)} (ht:topoSound t=0) {s:Sp} (h:s∈edges t):s.small:=by
 obtain ⟨n,r,a,p,hr,hp,_,rfl⟩:=edges_mem.1 h
 obtain ⟨_,h2,h3,_⟩:=topoSound_ok ht
 have:=(List.getElem?_eq_some_iff.1 hr).1
 have:=(List.getElem?_eq_some_iff.1 hp).1
 have:=h3 r (List.mem_of_getElem? hr)
 exact ⟨⟨by simp,by simp only [];omega⟩,by simp,by simp only [];omega⟩
theorem small_zero:Sp.zero.small:=⟨⟨by decide,by decide⟩,by decide,by decide⟩
def spV (s:Sp):Value:=.agg #[.int .i64 s.sw,.int .i64 s.port]
def hdV (h:Hd):Value:=.agg #[.int .u64 h.hi.toNat,.int .u64 h.lo.toNat]
def spEs (l:List (Sp × Hd)):Array MapEntry:=(l.zipIdx.map fun p=>⟨spV p.1.1,hdV p.1.2,p.2⟩).toArray
theorem spEs_push (l:List (Sp × Hd)) (c:Sp × Hd):(spEs l).push ⟨spV c.1,hdV c.2,l.length⟩=spEs (l++[c]):=by
 simp [spEs,List.zipIdx_append]
def mapS (l:List (Sp × Hd)):Body:=.obj (.map (spEs l) l.length)
theorem spV_inj {a b:Sp} (h:spV a=spV b):a=b:=by
 simp only [spV,Value.agg.injEq,Array.mk.injEq,List.cons.injEq,Value.int.injEq,true_and,and_true] at h
 obtain ⟨h1,h2⟩:=h
 obtain ⟨a1,a2⟩:=a
 obtain ⟨b1,b2⟩:=b
 simp only at h1 h2
 subst h1 h2
 rfl
theorem mem_spEs {l:List (Sp × Hd)} {e:MapEntry} (h:e∈(spEs l).toList):∃x∈l,e.key=spV x.1/\e.val=hdV x.2:=by
 simp only [spEs,List.mem_map] at h
 obtain ⟨p,hp,rfl⟩:=h
 exact ⟨p.1,(List.mem_zipIdx hp).2.2 ▸ List.getElem_mem _,rfl,rfl⟩
theorem spEs_mem {l:List (Sp × Hd)} {x:Sp × Hd} (h:x∈l):∃e∈(spEs l).toList,e.key=spV x.1:=by
 obtain ⟨i,hi,rfl⟩:=List.mem_iff_getElem.1 h
 exact ⟨⟨spV l[i].1,hdV l[i].2,i⟩,by
  simp only [spEs,List.mem_map]
  exact ⟨(l[i],i),by rw [List.mem_iff_getElem?];exact ⟨i,by simp [List.getElem?_eq_getElem hi]⟩,rfl⟩,rfl⟩
theorem i64_wf {n:Int} (h:0<=n/\n<=1000000):(Lit.int .i64 n).wf=true:=by
 have h1:IntKind.i64.min = -9223372036854775808:=rfl
 have h2:IntKind.i64.max=9223372036854775807:=rfl
 simp only [Lit.wf,h1,h2,Bool.and_eq_true,decide_eq_true_eq]
 omega
theorem sp_lits {P:Program} {k u:TypeId} {f0 f1:Field} (h1:P.underlying k=some (.struct #[f0,f1])) (h3:P.underlying u=some (.int .i64)) (c1:P.cellsOf k=2) (c3:P.cellsOf u=1)
  (a0 : f0.type = u /\ f0.offset = 0 /\ f0.name ≠ "_") (a1 : f1.type = u /\ f1.offset = 1 /\ f1.name ≠ "_") (n : Nat) (s : Sp) (hs : s.small) :
  P.keyLits (n+2) k (spV s).cells.toList=some [.int .i64 s.sw,.int .i64 s.port]:=by
 unfold Program.keyLits
 rw [h1]
 simp [c1,a0,a1,c3,spV,Value.cells,Program.keyLits,h3,i64_wf hs.1,i64_wf hs.2]
theorem sp_formed {P:Program} {k:TypeId} {fs:Array Field} (h1:P.underlying k=some (.struct fs)) (c1:P.cellsOf k=2) (s:Sp):(spV s).formed P k=true:=by
 simp [spV,Value.formed,h1,c1]
theorem spk_row:(42:TypeId)<Tryz.prog.types.size:=of_decide_eq_true (by kernel_rfl)
theorem spk_law:WideMaps.KeyLaw Tryz.prog 42:=deep_law_laid (by kernel_rfl) (m:=3) (by omega) spk_row (by kernel_rfl) (by rw [Tryz.underlying42])
theorem sp_key (s:Sp) (hs:s.small):∃l,keyOf Tryz.prog 42 (spV s)=some l:=by
 have c1:Tryz.prog.cellsOf 42=2:=by kernel_rfl
 refine key_of Tryz.underlying42 (by kernel_rfl) (sp_formed Tryz.underlying42 c1 s) (ls:=[.int .i64 s.sw,.int .i64 s.port]) ?_
 have hr:=spk_row
 generalize hn:Tryz.prog.types.size=n at hr
 obtain ⟨m,rfl⟩:∃m,n=m+1:=⟨n - 1,by have:(1:Nat)<=n:=Nat.le_trans (by decide) (Nat.le_of_lt hr);omega⟩
 exact sp_lits Tryz.underlying42 (u:=3) (by kernel_rfl) c1 (by kernel_rfl) ⟨rfl,rfl,by decide⟩ ⟨rfl,rfl,by decide⟩ m s hs
theorem rel_sp {W:World} {F:Nat->Prop} {μ:Mu} {σ:Sto} {s:Sp} {v:Value} (h:Rel W F μ σ (.agg (cSp s)) v):v=spV s:=by
 obtain ⟨vs,rfl,hl,_,hr⟩:=h.agg'
 match vs,hl with
 | [v0,v1],_ =>
  rw [(hr 0 _ _ rfl rfl).i',(hr 1 _ _ rfl rfl).i']
  rfl
theorem rel_hd {W:World} {F:Nat->Prop} {μ:Mu} {σ:Sto} {h:Hd} {v:Value} (hx:Rel W F μ σ (.agg (cHd h)) v):v=hdV h:=by
 obtain ⟨vs,rfl,hl,_,hr⟩:=hx.agg'
 match vs,hl with
 | [v0,v1],_ =>
  rw [(hr 0 _ _ rfl rfl).u',(hr 1 _ _ rfl rfl).u']
  rfl
theorem hd_rel {W:World} {F:Nat->Prop} {μ:Mu} {σ:Sto} (h:Hd):Rel W F μ σ (.agg (cHd h)) (hdV h) :=
 .agg (cHd h) [.int .u64 h.hi.toNat,.int .u64 h.lo.toNat] rfl (fun j x hj=>by
  match j,hj with
  | 0,hj=>cases hj;rfl
  | 1,hj=>cases hj;rfl) (pw_cons (.pure (.u _)) (pw_cons (.pure (.u _)) pw_nil))
def SpIs (l:List (Sp × Hd)) (q:Sp) (r:Option Hd):Prop:=(r=none/\∀p∈l,p.1≠q)\/∃h,r=some h/\(q,h)∈l/\∀p∈l,p.1=q->p.2=h
theorem find_sp (W:World) (l:List (Sp × Hd)) (q:Sp) (hl:∀p∈l,p.1.small) (hq:q.small):((∀p∈l,p.1≠q)/\(Instr.findKey 42 (spV q) (spEs l).toList).run Tryz.prog W = .ok none W)\/(∃h,(q,h)∈l/\∃j,(Instr.findKey 42 (spV q) (spEs l).toList).run Tryz.prog W = .ok (some (j,hdV h)) W):=by
 obtain ⟨lx,hx⟩:=sp_key q hq
 rcases spk_law.find W hx (spEs l).toList (fun e he=>by
  obtain ⟨x,hxl,hk,_⟩:=mem_spEs he
  rw [hk]
  exact sp_key x.1 (hl x hxl)) with ⟨h1,h2⟩ | ⟨j,e,h1,h2,h3⟩
 ·refine .inl ⟨fun p hp e=>?_,h1⟩
  obtain ⟨e',he,hk⟩:=spEs_mem hp
  exact h2 e' he (e ▸ hk)
 ·obtain ⟨x,hxl,hk,hv⟩:=mem_spEs (List.mem_of_getElem? h2)
  rw [hv] at h1
  have e1:x.1=q:=spV_inj (hk.symm.trans h3)
  exact .inr ⟨x.2,e1 ▸ hxl,j,h1⟩
theorem mapS_under:Tryz.prog.underlying 203=some (.map 42 34):=by kernel_rfl
theorem hd_zero (W:World):(zeroValue 34).run Tryz.prog W = .ok (hdV Hd.zero) W:=by kernel_rfl
theorem op_lookSp {N:Nat} {o:Oper} {s:St} {x k:Operand} {id ep:Nat} {l:List (Sp × Hd)} {q:Sp} (r:Option Hd) (ho:o.op = .lookup 203 x k true) (hx:s.ev x = .ref id ep .map) (hid:s.σ id=⟨ep,some (mapS l)⟩) (hk:s.ev k = .agg (cSp q)) (hl:∀p∈l,p.1.small) (hq:q.small) (hr:SpIs l q r) :
  OpLoc Tryz.prog N o s ⟨.tup [.agg (cHd (r.getD Hd.zero)),.b r.isSome],[],[id]⟩:=by
 refine oploc_val [id] _ fun s' W F μ a h1 h2 hrs=>⟨.tuple [hdV (r.getD Hd.zero),.bool r.isSome].toArray,?_,.tup _ [_,_] rfl (pw_cons (hd_rel _) (pw_cons (.pure (.b _)) pw_nil))⟩
 have ex:=hrs.ev x
 have ek:=hrs.ev k
 rw [h1 x (by rw [ho];simp [Op.operands]),hx] at ex
 rw [h1 k (by rw [ho];simp [Op.operands]),hk] at ek
 have hid':=(h2 id (by simp)).trans hid
 obtain ⟨b,c',hm,hv⟩:=(Rel.ref' ex).2.2 _ hid'
 obtain ⟨b',c'',hm',hh⟩:=hrs.inv.body _ _ _ hid'
 obtain ⟨rfl,rfl⟩:b=b'/\c'=c'':=by rw [hm] at hm';simpa using hm'
 have hkv:=rel_sp ek
 obtain ⟨lx,hlx⟩:=sp_key q hq
 have hck:=fun em=>spk_law.check W em hlx
 rcases find_sp W l q hl hq with ⟨h3,h4⟩ | ⟨h,h3,j,h4⟩
 ·have e:r=none:=by
   rcases hr with ⟨e,_⟩ | ⟨h,_,h5,_⟩
   ·exact e
   ·exact absurd rfl (h3 _ h5)
  subst e
  simp only [execOp,ho,Instr.lookup,Sem.run_bind,run_underlying mapS_under,Result.andThen_ok,hv,RK.val,run_getMap hh,Sem.run_pure,hkv,hck,h4,hd_zero]
  rfl
 ·have e:r=some h:=by
   rcases hr with ⟨_,h5⟩ | ⟨h',e,_,h6⟩
   ·exact absurd rfl (h5 _ h3)
   ·have h7:h=h':=h6 _ h3 rfl
    rw [e,h7]
  subst e
  simp only [execOp,ho,Instr.lookup,Sem.run_bind,run_underlying mapS_under,Result.andThen_ok,hv,RK.val,run_getMap hh,Sem.run_pure,hkv,hck,h4]
  rfl
theorem op_putSp {N : Nat} {o : Oper} {s : St} {x k v : Operand} {id ep : Nat} {l : List (Sp × Hd)} {q : Sp} {h : Hd} (ho : o.op = .mapUpdate 203 x k v) (hx : s.ev x = .ref id ep .map) (hid : s.σ id = ⟨ep, some (mapS l)⟩) (hk : s.ev k = .agg (cSp q)) (hv : s.ev v = .agg (cHd h)) (hl : ∀ p ∈ l, p.1.small) (hq : q.small) (hc : ∀ p ∈ l, p.1 ≠ q) :
    OpLoc Tryz.prog N o s ⟨.tup [],[(id,⟨ep,some (mapS (l++[(q,h)]))⟩)],[]⟩:=by
  intro s' g1 g2 g3 W F μ a hr K Q hK
  have hid':s'.σ id=⟨ep,some (mapS l)⟩:=(g3 (id,⟨ep,some (mapS (l++[(q,h)]))⟩) (by simp)).trans hid
  have ex:=hr.ev x
  have ek:=hr.ev k
  have ev:=hr.ev v
  rw [g1 x (by rw [ho];simp [Op.operands]),hx] at ex
  rw [g1 k (by rw [ho];simp [Op.operands]),hk] at ek
  rw [g1 v (by rw [ho];simp [Op.operands]),hv] at ev
  obtain ⟨b,c',hm,hv⟩:=(Rel.ref' ex).2.2 _ hid'
  obtain ⟨b',c'',hm',hh⟩:=hr.inv.body _ _ _ hid'
  obtain ⟨rfl,rfl⟩:b=b'/\c'=c'':=by rw [hm] at hm';simpa using hm'
  have hkv:=rel_sp ek
  have hvv:=rel_hd ev
  obtain ⟨lx,hlx⟩:=sp_key q hq
  have hck:=fun em=>spk_law.check W em hlx
  have hf:(Instr.findKey 42 (spV q) (spEs l).toList).run Tryz.prog W = .ok none W:=by
    rcases find_sp W l q hl hq with ⟨h3,h4⟩ | ⟨h',h3,_⟩
    · exact h4
    · exact absurd rfl (hc _ h3)
  have hlt:b<W.heap.size:=(Array.getElem?_eq_some_iff.1 hh).1
  generalize hW:({ W with heap:=W.heap.setIfInBounds b (.map (spEs (l++[(q,h)])) (l++[(q,h)]).length) }:World)=W'
  have hpush:=spEs_push l (q,h)
  simp only at hpush
  have hrun:(execOp a.eval o).run Tryz.prog W = .ok .skip W':=by
    simp only [execOp,ho,Instr.mapUpdate,Sem.run_bind,run_underlying mapS_under,Result.andThen_ok,hv,RK.val,run_getMap hh,Sem.run_pure,hkv,hvv,hck,hf,MapKept.run_setObj_map _ hh,hpush]
    rw [<- hW,List.length_append,List.length_singleton]
  have hk:Kp (fun b=>(s'.σ id).body.isSome=true/\∃c,μ id=some (b,c)) W W':=by
    subst hW
    exact ⟨rfl,rfl,rfl,by simp,fun k hk hn=>by
      have:b≠k:=fun e=>hn ⟨by rw [hid'];rfl,c',e ▸ hm⟩
      simp only [Array.getElem?_setIfInBounds,if_neg this]⟩
  have hh':W'.heap[b]?=some (.map (spEs (l++[(q,h)])) (l++[(q,h)]).length):=by
    subst hW
    simp only [Array.getElem?_setIfInBounds,if_true,if_pos hlt]
  have hsz:W'.heap.size=W.heap.size:=by subst hW;simp
  obtain ⟨hs, hi⟩ := inv_turn hr.inv id (μ id) ep (mapS (l ++ [(q, h)])) hk (fun b1 c1 e => by
      rw [hm] at e
      obtain ⟨rfl,rfl⟩:b=b1/\c'=c1:=by simpa using e
      exact ⟨by rw [hsz];exact hlt,.inr ⟨by rw [hid'];rfl,c',hm⟩⟩)
    (.inr ⟨by rw [hid'],mapS l,by rw [hid'],rfl,rfl⟩) (fun hs=>⟨b,c',hm,hh'⟩)
  unfold Oper.wp
  rw [hrun]
  exact hK _ F _ _ (hr.put hs hi (.pure (.tup [] [] rfl (by simp)))) hs
end Go.Proofs.YtoaibdbehlcnfaaGreat.Sm
end
