/- Contracts of the program's functions over data, and the plain laws that they meet (part 7). No condition. -/
import Derived.Test.YtoaibdbehlcnfaaGreatVbf
import Derived.WalkKit
import Derived.WalkSpells
import Derived.WalkLawsBesides
import Derived.Lib.Hide
import Derived.Deep.RegionHeld3
import Derived.Maps.AppendAt
import Derived.KernelRfl
import Derived.Lib.AppendStr
import Derived.Orders
import Derived.LoopTactic
import Derived.Laws.CopyRow
import Derived.Laws.Cells
import Derived.Great.BuildSlice
import Derived.Laws.ResultCell
import Derived.Laws.StructEq
import Derived.Laws.MakeOwn
import Derived.Lib.AppendZerosOnto
import Derived.Deep.Slices
import Derived.Deep.Fields
import Derived.ChangeSame
import Derived.ProofKit
import Derived.OpenShut
import Derived.SizedLaws
import Derived.Test.YtoaibdbehlcnfaaGreatProg
import Derived.Shelf.Spec.BitsCarry
import Derived.DeepKeys4
import Derived.MapKept
import Derived.Sort.AssemblyPlain
import Derived.Sort.LotD4
import Derived.Sort.Walk13a
set_option linter.unusedVariables false
set_option linter.unusedSimpArgs false
set_option maxRecDepth 100000
set_option maxHeartbeats 4000000
section
namespace Go.Proofs.YtoaibdbehlcnfaaGreat.Sm
open Go.RowKit
open Go.Sort (swp)
open Go.Sort (SWO Below PermIn SortedIn)
theorem hint2 (h:Go.Sort.Hint):decide (Go.Sort.hintCode h=2)=decide (h = .decreasing):=by cases h <;> rfl
theorem hint1 (h:Go.Sort.Hint):decide (Go.Sort.hintCode h=1)=decide (h = .increasing):=by cases h <;> rfl
theorem heap_sz {α:Type} [Inhabited α] {lt:α->α->Bool} (d:Array α) (a b:Nat):(Go.Sort.heapSort lt d a b).size=d.size:=by
 rw [Go.Sort.heapSort,pop_sz,build_sz]
theorem m_pdq (l : List Rl) (L : Nat) (hL : l.length = L + 1) (n : Nat) (hl : n <= 100000) (h256 : n < 256) (hS : SWO (ltI l L)) : ∀ (f a b lim : Nat) (d : Array (Fin (L + 1))), d.size = n -> a <= b -> b <= n -> b - a <= f -> lim <= 1000 -> Below (ltI l L) a b d -> ∀ (q : Nat -> Option (Nat × Nat)),
    MDoes Tryz.prog 306 [.row 201 0 0 n,.i .i64 ((a:Nat):Int),.i .i64 ((b:Nat):Int),.i .i64 ((lim:Nat):Int),.fn 300 [.own 210 0 0] []] (gl q [210,201] (ioB l n (d))) (.tup []) (gl q [210,201] (ioB l n (Go.Sort.pdq (ltI l L) d a b lim true true))):=by
  intro f
  induction f using Nat.strongRecOn with
  | ind f IH =>
  intro a b lim d hn hab hb hf hlim hB q
  refine MDoes.of_body Tryz.func306 rfl (by kernel_rfl) rfl rfl ?_
  generalize hG:Go.Sort.pdq (ltI l L) d a b lim true true=G
  refine jA ?_
  refine AW.loopL (ι:=(Nat × Nat × Nat) × (Bool × Bool) × Array (Fin (L+1))) (fun x=>[(0,.row 201 0 0 n),(1,.i .i64 ((x.1.1:Nat):Int)),(2,.i .i64 ((x.1.2.1:Nat):Int)),(3,.i .i64 ((x.1.2.2:Nat):Int)),(4,.fn 300 [.own 210 0 0] []),(10,.b x.2.1.1),(11,.b x.2.1.2)]) (fun x=>gl q [210,201] (ioB l n (x.2.2))) (fun x=>(x.1.1<=x.1.2.1/\x.1.2.1<=n/\x.1.2.1 - x.1.1<=f/\x.1.2.2<=1000/\x.2.2.size=n/\Below (ltI l L) x.1.1 x.1.2.1 x.2.2)/\Go.Sort.pdq (ltI l L) x.2.2 x.1.1 x.1.2.1 x.1.2.2 x.2.1.1 x.2.1.2=G) (fun x=>x.1.2.1 - x.1.1) ((a,b,lim),(true,true),d) ⟨⟨hab,hb,hf,hlim,hn,hB⟩,hG⟩ ⟨Rn.rowIs rfl rfl rfl,Rn.is rfl rfl,Rn.is rfl rfl,Rn.is rfl rfl,Rn.fnO rfl rfl rfl,Rn.is rfl rfl,Rn.is rfl rfl,trivial⟩ (io_end rfl rfl rfl rfl rfl (rfl) (rowFit (by assumption))) fun x hx=>?_
  clear hG hn hab hb hf hlim hB
  obtain ⟨⟨a,b,lim⟩,⟨wb,wp⟩,d⟩:=x
  obtain ⟨⟨hab,hb,hf,hlim,hn,hB⟩,hG⟩:=hx
  simp only at hab hb hf hlim hn hB hG
  have p:=Go.Sort.pdq_unfold (lt:=ltI l L) (d:=d) (a:=a) (b:=b) (limit:=lim) (wb:=wb) (wp:=wp)
  rw [p] at hG
  clear p
  have wl:IntKind.i64.wrap (((b:Nat):Int) - ((a:Nat):Int))=((b - a:Nat):Int):=by rw [IntKind.wrap_i64];omega
  refine jB ?_
  refine AW.text ?_
  refine RG.runO ty_ok 0 [(23,.i .i64 ((b - a:Nat):Int))] 400 rfl jD ?_
  refine jA ?_
  refine AW.cond rfl (fun h0=>?_) (fun h0=>?_)
  · have h : b - a <= 12 := by
      have:=of_decide_eq_true h0
      simp only [Int.ofNat_eq_natCast] at this
      omega
    rw [if_pos h] at hG
    subst hG
    have hs:=ins_pm (ltI l L) d a b (by omega)
    refine jA ?_
    refine RG.ownK [(210,210),(201,201)] [(210,210),(201,201)] 201 201 (rowLen (hs.1)) (fun q=>m_insI l L hL n hl d hn a b (by omega) hb q) rfl rfl rfl rfl rfl rfl rfl rfl rfl rfl rfl rfl rfl ?_
    refine wH rfl ?_;refine jA ?_
    exact AW.ret (retM0 rfl (.inr rfl) (io_end rfl rfl rfl rfl rfl (rfl) (rowFit (hs.1.trans hn))))
  have h:¬b - a<=12:=by
    have:=of_decide_eq_false h0
    simp only [Int.ofNat_eq_natCast] at this
    omega
  rw [if_neg h] at hG
  refine jA ?_
  refine AW.cond rfl (fun h1=>?_) (fun h1=>?_)
  · have k : lim = 0 := by
      have:=of_decide_eq_true h1
      simp only [Int.ofNat_eq_natCast] at this
      omega
    rw [if_pos k] at hG
    subst hG
    have hs:=heap_sz (lt:=ltI l L) d a b
    refine jA ?_
    refine RG.ownK [(210,210),(201,201)] [(210,210),(201,201)] 201 201 (rowLen (hs)) (fun q=>m_heap l L hL n hl d hn a b (by omega) hb q) rfl rfl rfl rfl rfl rfl rfl rfl rfl rfl rfl rfl rfl ?_
    refine wH rfl ?_;refine jA ?_
    exact AW.ret (retM0 rfl (.inr rfl) (io_end rfl rfl rfl rfl rfl (rfl) (rowFit (hs.trans hn))))
  have k:¬lim=0:=by
    have:=of_decide_eq_false h1
    simp only [Int.ofNat_eq_natCast] at this
    omega
  rw [if_neg k] at hG
  have hF:=Go.Sort.rd_facts (limit:=lim) (wb:=wb) (wp:=wp) hS Go.Sort.partialInsertionSort_holds Go.Sort.reverseRange_holds (show a<b by omega) (show b<=d.size by omega) hB
  have hlm:=Go.Sort.rd_lim_le (lt:=ltI l L) (d:=d) (a:=a) (b:=b) (limit:=lim) (wb:=wb) (wp:=wp)
  obtain ⟨X,hX⟩:∃X,Go.Sort.rd (ltI l L) d a b lim wb wp=X:=⟨_,rfl⟩
  rw [hX] at hG hF hlm
  have q1:X.d1=(if (!wb)=true then Go.Sort.breakPatterns d a b else d):=by rw [<- hX];rfl
  have q2:X.lim=(if (!wb)=true then lim - 1 else lim):=by rw [<- hX];rfl
  have q0:X.c=Go.Sort.choosePivot (ltI l L) X.d1 a b:=by rw [<- hX];rfl
  have q3:X.d2=(if X.c.2 = .decreasing then Go.Sort.reverseRange X.d1 a b else X.d1):=by rw [<- hX];rfl
  have q4:X.pivot=(if X.c.2 = .decreasing then (b - 1) - (X.c.1 - a) else X.c.1):=by rw [<- hX];rfl
  have q5:X.hint=(if X.c.2 = .decreasing then Go.Sort.Hint.increasing else X.c.2):=by rw [<- hX];rfl
  have q6:X.pi=(if (wb && wp && decide (X.hint = .increasing))=true then Go.Sort.partialInsertionSort (ltI l L) X.d2 a b else (X.d2,false)):=by rw [<- hX];rfl
  clear hX
  obtain ⟨s1,B1,⟨c1,c2⟩,s2,B2,⟨v1,v2⟩,s3,B3⟩:=hF
  have s1:=s1.trans hn
  have s2:=s2.trans hn
  have s3:=s3.trans hn
  refine jA ?_
  refine AW.cutT (ι:=Unit) (fun _=>[(0,.row 201 0 0 n),(1,.i .i64 ((a:Nat):Int)),(2,.i .i64 ((b:Nat):Int)),(3,.i .i64 ((X.lim:Nat):Int)),(4,.fn 300 [.own 210 0 0] []),(10,.b wb),(11,.b wp),(12,.i .i64 ((b - a:Nat):Int))]) (fun _=>gl q [210,201] (ioB l n (X.d1))) (fun _=>True) ?_ fun _ _=>?_
  · refine AW.cond rfl (fun h2=>?_) (fun h2=>?_)
    · rw [if_pos h2] at q1 q2
      have wm:IntKind.i64.wrap (((lim:Nat):Int) - Int.ofNat 1)=((X.lim:Nat):Int):=by rw [q2,IntKind.wrap_i64];simp only [Int.ofNat_eq_natCast];omega
      have hbk:=m_break l L hL n hl d hn a b (by omega) hb h256
      rw [<- q1] at hbk
      refine jA ?_
      refine RG.ownK [(210,210),(201,201)] [(210,210),(201,201)] 201 201 (rowLen (s1.trans hn.symm)) (fun q=>hbk q) rfl rfl rfl rfl rfl rfl rfl rfl rfl rfl rfl rfl rfl ?_
      refine wH rfl ?_;refine jA ?_
      exact ⟨(),trivial,⟨Rn.rowIs rfl rfl rfl,Rn.is rfl rfl,Rn.is rfl rfl,Rn.is (congrArg (AV.i .i64) wm) rfl,Rn.fnO rfl rfl rfl,Rn.is rfl rfl,Rn.is rfl rfl,Rn.is rfl rfl,trivial⟩,io_end rfl rfl rfl rfl rfl (rfl) (rowFit s1)⟩
    · rw [if_neg (by rw [h2];decide)] at q1 q2
      rw [q1,q2]
      refine jA ?_
      exact ⟨(),trivial,⟨Rn.rowIs rfl rfl rfl,Rn.is rfl rfl,Rn.is rfl rfl,Rn.is rfl rfl,Rn.fnO rfl rfl rfl,Rn.is rfl rfl,Rn.is rfl rfl,Rn.is rfl rfl,trivial⟩,io_end rfl rfl rfl rfl rfl (rfl) (rowFit hn)⟩
  clear q1 q2
  have hpv:=m_pivot l L hL n hl X.d1 s1 a b (by omega) hb
  have e0:Go.Sort.choosePivot (ltI l L) X.d1 a b=((Go.Sort.rawPivot (ltI l L) X.d1 a b).1,Go.Sort.hintOf (Go.Sort.rawPivot (ltI l L) X.d1 a b).2):=Go.Sort.choosePivot_eq _ _ _ _
  have e1:(Go.Sort.rawPivot (ltI l L) X.d1 a b).1=X.c.1:=by rw [q0,e0]
  have e2:Go.Sort.hintOf (Go.Sort.rawPivot (ltI l L) X.d1 a b).2=X.c.2:=by rw [q0,e0]
  rw [e1,e2] at hpv
  clear e0 e1 e2 q0
  refine jA ?_
  refine RG.ownK [(210,210),(201,201)] [(210,210),(201,201)] 201 201 (rowLen (rfl)) (fun q=>hpv q) rfl rfl rfl rfl rfl rfl rfl rfl rfl rfl rfl rfl rfl ?_
  refine wH rfl ?_;refine jA ?_
  refine AW.cutT (ι:=Unit) (fun _=>[(0,.row 201 0 0 n),(1,.i .i64 ((a:Nat):Int)),(2,.i .i64 ((b:Nat):Int)),(3,.i .i64 ((X.lim:Nat):Int)),(4,.fn 300 [.own 210 0 0] []),(10,.b wb),(11,.b wp),(12,.i .i64 ((b - a:Nat):Int)),(13,.i .i64 ((X.pivot:Nat):Int)),(14,.i .i64 (Go.Sort.hintCode X.hint))]) (fun _=>gl q [210,201] (ioB l n (X.d2))) (fun _=>True) ?_ fun _ _=>?_
  · refine AW.cond rfl (fun h2=>?_) (fun h2=>?_)
    · have k2:X.c.2 = .decreasing:=of_decide_eq_true ((hint2 X.c.2).symm.trans h2)
      rw [if_pos k2] at q3 q4 q5
      have hrv:=m_revI l L hL n hl X.d1 s1 a b (by omega) hb
      rw [<- q3] at hrv
      have wa:IntKind.i64.wrap (((b:Nat):Int) - Int.ofNat 1)=((b - 1:Nat):Int):=by rw [IntKind.wrap_i64];simp only [Int.ofNat_eq_natCast];omega
      have wc:IntKind.i64.wrap (((X.c.1:Nat):Int) - ((a:Nat):Int))=((X.c.1 - a:Nat):Int):=by rw [IntKind.wrap_i64];omega
      have wd:IntKind.i64.wrap (((b - 1:Nat):Int) - ((X.c.1 - a:Nat):Int))=((X.pivot:Nat):Int):=by rw [q4,IntKind.wrap_i64];omega
      refine jA ?_
      refine RG.ownK [(210,210),(201,201)] [(210,210),(201,201)] 201 201 (rowLen (s2.trans s1.symm)) (fun q=>hrv q) rfl rfl rfl rfl rfl rfl rfl rfl rfl rfl rfl rfl rfl ?_
      refine wH rfl ?_;refine jB ?_
      refine AW.text ?_
      refine RG.runO ty_ok 0 [(63,.i .i64 ((b - 1:Nat):Int)),(66,.i .i64 ((X.c.1 - a:Nat):Int)),(67,.i .i64 ((X.pivot:Nat):Int))] 400 rfl jD ?_
      refine jA ?_
      exact ⟨(),trivial,⟨Rn.rowIs rfl rfl rfl,Rn.is rfl rfl,Rn.is rfl rfl,Rn.is rfl rfl,Rn.fnO rfl rfl rfl,Rn.is rfl rfl,Rn.is rfl rfl,Rn.is rfl rfl,Rn.is rfl rfl,Rn.is (by rw [q5];rfl) rfl,trivial⟩,io_end rfl rfl rfl rfl rfl (rfl) (rowFit s2)⟩
    · have k2:¬X.c.2 = .decreasing:=of_decide_eq_false ((hint2 X.c.2).symm.trans h2)
      rw [if_neg k2] at q3 q4 q5
      rw [q3,q4,q5]
      refine jA ?_
      exact ⟨(),trivial,⟨Rn.rowIs rfl rfl rfl,Rn.is rfl rfl,Rn.is rfl rfl,Rn.is rfl rfl,Rn.fnO rfl rfl rfl,Rn.is rfl rfl,Rn.is rfl rfl,Rn.is rfl rfl,Rn.is rfl rfl,Rn.is rfl rfl,trivial⟩,io_end rfl rfl rfl rfl rfl (rfl) (rowFit s1)⟩
  clear q3 q4 q5
  refine jB ?_
  refine AW.cutT (ι:=Unit) (fun _=>[(0,.row 201 0 0 n),(1,.i .i64 ((a:Nat):Int)),(2,.i .i64 ((b:Nat):Int)),(3,.i .i64 ((X.lim:Nat):Int)),(4,.fn 300 [.own 210 0 0] []),(10,.b wb),(11,.b wp),(12,.i .i64 ((b - a:Nat):Int)),(13,.i .i64 ((X.pivot:Nat):Int)),(14,.i .i64 (Go.Sort.hintCode X.hint)),(75,.b (wb && wp && decide (X.hint = .increasing)))]) (fun _=>gl q [210,201] (ioB l n (X.d2))) (fun _=>True) ?_ fun _ _=>?_
  · refine AW.text ?_
    cases wb
    · refine wH rfl ?_;refine jB ?_
      exact ⟨(),trivial,⟨Rn.rowIs rfl rfl rfl,Rn.is rfl rfl,Rn.is rfl rfl,Rn.is rfl rfl,Rn.fnO rfl rfl rfl,Rn.is rfl rfl,Rn.is rfl rfl,Rn.is rfl rfl,Rn.is rfl rfl,Rn.is rfl rfl,Rn.is rfl rfl,trivial⟩,io_end rfl rfl rfl rfl rfl (rfl) (rowFit s2)⟩
    cases wp
    · refine wH rfl ?_;refine jB ?_
      exact ⟨(),trivial,⟨Rn.rowIs rfl rfl rfl,Rn.is rfl rfl,Rn.is rfl rfl,Rn.is rfl rfl,Rn.fnO rfl rfl rfl,Rn.is rfl rfl,Rn.is rfl rfl,Rn.is rfl rfl,Rn.is rfl rfl,Rn.is rfl rfl,Rn.is rfl rfl,trivial⟩,io_end rfl rfl rfl rfl rfl (rfl) (rowFit s2)⟩
    refine wH rfl ?_;refine jB ?_
    exact ⟨(),trivial,⟨Rn.rowIs rfl rfl rfl,Rn.is rfl rfl,Rn.is rfl rfl,Rn.is rfl rfl,Rn.fnO rfl rfl rfl,Rn.is rfl rfl,Rn.is rfl rfl,Rn.is rfl rfl,Rn.is rfl rfl,Rn.is rfl rfl,Rn.is (congrArg AV.b (by rw [Bool.true_and,Bool.true_and];exact hint1 X.hint)) rfl,trivial⟩,io_end rfl rfl rfl rfl rfl (rfl) (rowFit s2)⟩
  refine jB ?_
  refine AW.cutT (ι:=Unit) (fun _=>[(0,.row 201 0 0 n),(1,.i .i64 ((a:Nat):Int)),(2,.i .i64 ((b:Nat):Int)),(3,.i .i64 ((X.lim:Nat):Int)),(4,.fn 300 [.own 210 0 0] []),(10,.b wb),(11,.b wp),(12,.i .i64 ((b - a:Nat):Int)),(13,.i .i64 ((X.pivot:Nat):Int))]) (fun _=>gl q [210,201] (ioB l n (X.pi.1))) (fun _=>X.pi.2=false) ?_ fun _ hpi=>?_
  · refine AW.cond rfl (fun h2=>?_) (fun h2=>?_)
    · rw [if_pos h2] at q6
      have hpn:=m_pins l L hL n hl X.d2 s2 a b (by omega) hb
      rw [<- q6] at hpn
      refine jA ?_
      refine RG.ownK [(210,210),(201,201)] [(210,210),(201,201)] 201 201 (rowLen (s3.trans s2.symm)) (fun q=>hpn q) rfl rfl rfl rfl rfl rfl rfl rfl rfl rfl rfl rfl rfl ?_
      refine wH rfl ?_;refine jA ?_
      refine AW.cond rfl (fun h3=>?_) (fun h3=>?_)
      · rw [if_pos h3] at hG
        subst hG
        exact AW.ret (retM0 rfl (.inr rfl) (io_end rfl rfl rfl rfl rfl (rfl) (rowFit s3)))
      · refine jA ?_
        exact ⟨(),h3,⟨Rn.rowIs rfl rfl rfl,Rn.is rfl rfl,Rn.is rfl rfl,Rn.is rfl rfl,Rn.fnO rfl rfl rfl,Rn.is rfl rfl,Rn.is rfl rfl,Rn.is rfl rfl,Rn.is rfl rfl,trivial⟩,io_end rfl rfl rfl rfl rfl (rfl) (rowFit s3)⟩
    · rw [if_neg (by rw [h2];decide)] at q6
      have q7:X.pi.1=X.d2:=by rw [q6]
      have q8:X.pi.2=false:=by rw [q6]
      rw [q7]
      refine jA ?_
      exact ⟨(),q8,⟨Rn.rowIs rfl rfl rfl,Rn.is rfl rfl,Rn.is rfl rfl,Rn.is rfl rfl,Rn.fnO rfl rfl rfl,Rn.is rfl rfl,Rn.is rfl rfl,Rn.is rfl rfl,Rn.is rfl rfl,trivial⟩,io_end rfl rfl rfl rfl rfl (rfl) (rowFit s2)⟩
  rw [if_neg (by rw [hpi];decide)] at hG
  clear q6 hpi
  refine jB ?_
  refine AW.cutT (ι:=Unit) (fun _=>[(0,.row 201 0 0 n),(1,.i .i64 ((a:Nat):Int)),(2,.i .i64 ((b:Nat):Int)),(3,.i .i64 ((X.lim:Nat):Int)),(4,.fn 300 [.own 210 0 0] []),(10,.b wb),(11,.b wp),(12,.i .i64 ((b - a:Nat):Int)),(13,.i .i64 ((X.pivot:Nat):Int)),(97,.b (decide (a>0) && !ltI l L X.pi.1[a - 1]! X.pi.1[X.pivot]!))]) (fun _=>gl q [210,201] (ioB l n (X.pi.1))) (fun _=>True) ?_ fun _ _=>?_
  · refine AW.draws mixed_ok ?_
    by_cases g1:(0:Int)<((a:Nat):Int)
    · refine RG.runO ty_ok 0 [(82,.b true)] 400 rfl jD ?_
      refine wH rfl ?_;refine RG.opS rfl (op_ixW (a - 1) numF ((X.pi.1).toList) (by omega) rfl (tab_ok ty_ok rfl) rfl (tab_ok ty_ok rfl) rfl rfl rfl jX) rfl ?_;refine RG.opS rfl (op_ldW (a - 1) numF (X.pi.1) (by omega) rfl (tab_ok ty_ok rfl) rfl rfl rfl) rfl ?_
      refine wH rfl ?_;refine RG.opS rfl (op_ixW (X.pivot) numF ((X.pi.1).toList) (by omega) rfl (tab_ok ty_ok rfl) rfl (tab_ok ty_ok rfl) rfl rfl rfl jX) rfl ?_;refine RG.opS rfl (op_ldW (X.pivot) numF (X.pi.1) (by omega) rfl (tab_ok ty_ok rfl) rfl rfl rfl) rfl ?_
      refine wH rfl ?_
      refine RG.ownK [(210,210),(201,201)] [(210,210),(201,201)] 201 201 rfl (fun q=>m_compare l L hL n (X.pi.1) (X.pi.1[a - 1]!) (X.pi.1[X.pivot]!) q (rowFit (by assumption))) rfl rfl rfl rfl rfl rfl rfl rfl rfl rfl rfl rfl rfl ?_
      refine wH rfl ?_;refine jB ?_
      exact ⟨(),trivial,⟨Rn.rowIs rfl rfl rfl,Rn.is rfl rfl,Rn.is rfl rfl,Rn.is rfl rfl,Rn.fnO rfl rfl rfl,Rn.is rfl rfl,Rn.is rfl rfl,Rn.is rfl rfl,Rn.is rfl rfl,Rn.is (congrArg AV.b (by rw [decide_eq_true (show a>0 by omega),Bool.true_and];rfl)) rfl,trivial⟩,io_end rfl rfl rfl rfl rfl (rfl) (rowFit s3)⟩
    · refine RG.runO ty_ok 0 [(82,.b false)] 400 rfl jD ?_
      refine jB ?_
      exact ⟨(),trivial,⟨Rn.rowIs rfl rfl rfl,Rn.is rfl rfl,Rn.is rfl rfl,Rn.is rfl rfl,Rn.fnO rfl rfl rfl,Rn.is rfl rfl,Rn.is rfl rfl,Rn.is rfl rfl,Rn.is rfl rfl,Rn.is (congrArg AV.b (by rw [decide_eq_false (show ¬a>0 by omega),Bool.false_and])) rfl,trivial⟩,io_end rfl rfl rfl rfl rfl (rfl) (rowFit s3)⟩
  cases hcb:(decide (a>0) && !ltI l L X.pi.1[a - 1]! X.pi.1[X.pivot]!)
  rotate_left
  · rw [if_pos hcb] at hG
    rw [Bool.and_eq_true,decide_eq_true_eq,Bool.not_eq_true'] at hcb
    have hpe:=m_partEq l L hL n hl X.pi.1 s3 a b X.pivot v1 v2 hb
    obtain ⟨⟨mid,d4⟩,hx⟩:∃z,Go.Sort.partitionEqual (ltI l L) X.pi.1 a b X.pivot=z:=⟨_,rfl⟩
    obtain ⟨g1,g2,g3,g4,_⟩:=Go.Sort.round_eq hS (Go.Sort.partitionEqual_holds _) hcb.1 v1 v2 (by omega) B3 hcb.2 hx
    rw [hx] at hpe hG
    simp only at hpe
    rw [if_pos ⟨g1,g2⟩] at hG
    simp only at hG
    have hn4:=g3.trans s3
    refine AW.cond rfl (fun _=>?_) (fun h1=>by cases h1)
    refine jA ?_
    refine RG.ownK [(210,210),(201,201)] [(210,210),(201,201)] 201 201 (rowLen (g3)) (fun q=>hpe q) rfl rfl rfl rfl rfl rfl rfl rfl rfl rfl rfl rfl rfl ?_
    refine wH rfl ?_;refine jA ?_
    refine AW.exit ?_;first | (refine Eq.mpr (if_pos rfl) ?_) | (refine Eq.mpr (if_neg (by decide)) ?_;refine Eq.mpr (if_pos rfl) ?_) | (refine Eq.mpr (if_neg (by decide)) ?_;refine Eq.mpr (if_neg (by decide)) ?_;refine Eq.mpr (if_pos rfl) ?_);refine jA ?_
    exact ⟨((mid,b,X.lim),(wb,wp),d4),⟨⟨⟨g2,hb,by show b - mid<=f;omega,by show X.lim<=1000;omega,hn4,g4⟩,hG⟩,by show b - mid<b - a;omega⟩,⟨Rn.rowIs rfl rfl rfl,Rn.is rfl rfl,Rn.is rfl rfl,Rn.is rfl rfl,Rn.fnO rfl rfl rfl,Rn.is rfl rfl,Rn.is rfl rfl,trivial⟩,io_end rfl rfl rfl rfl rfl (rfl) (rowFit hn4)⟩
  rw [if_neg (by rw [hcb];decide)] at hG
  clear hcb
  have hpt:=m_part l L hL n hl X.pi.1 s3 a b X.pivot v1 v2 hb
  obtain ⟨⟨mid,ap,d4⟩,hx⟩:∃z,Go.Sort.partition (ltI l L) X.pi.1 a b X.pivot=z:=⟨_,rfl⟩
  obtain ⟨g1,g2,g3,g4,g5,g6,g7⟩:=Go.Sort.round_part hS (Go.Sort.partition_holds _) v1 v2 (by omega) B3 hx
  rw [hx] at hpt hG
  simp only at hpt hG
  rw [if_pos ⟨g1,g2⟩] at hG
  have hn4:=g3.trans s3
  have wL:IntKind.i64.wrap (((mid:Nat):Int) - ((a:Nat):Int))=((mid - a:Nat):Int):=by rw [IntKind.wrap_i64];omega
  have wR:IntKind.i64.wrap (((b:Nat):Int) - ((mid:Nat):Int))=((b - mid:Nat):Int):=by rw [IntKind.wrap_i64];omega
  have w8:IntKind.i64.wrap (Int.tdiv ((b - a:Nat):Int) (Int.ofNat 8))=(((b - a) / 8:Nat):Int):=by
    rw [Int.tdiv_eq_ediv_of_nonneg (by omega),IntKind.wrap_i64];simp only [Int.ofNat_eq_natCast];omega
  have wI:IntKind.i64.wrap (((mid:Nat):Int)+Int.ofNat 1)=((mid+1:Nat):Int):=by rw [IntKind.wrap_i64];simp only [Int.ofNat_eq_natCast];omega
  refine AW.cond rfl (fun h1=>by cases h1) (fun _=>?_)
  refine jA ?_
  refine RG.ownK [(210,210),(201,201)] [(210,210),(201,201)] 201 201 (rowLen (g3)) (fun q=>hpt q) rfl rfl rfl rfl rfl rfl rfl rfl rfl rfl rfl rfl rfl ?_
  refine wH rfl ?_;refine jB ?_;refine wF ?_;refine wH rfl ?_;refine jB ?_
  refine AW.text ?_
  refine RG.runO ty_ok 0 [(117,.i .i64 ((mid - a:Nat):Int)),(120,.i .i64 ((b - mid:Nat):Int))] 400 rfl jD ?_
  refine jB ?_
  refine AW.text ?_
  refine RG.runO ty_ok 0 [(122,.i .i64 (((b - a) / 8:Nat):Int))] 400 rfl jD ?_
  refine jA ?_
  refine AW.cond rfl (fun h2=>?_) (fun h2=>?_)
  · have k2 : mid - a < b - mid := by
      have:=of_decide_eq_true h2
      omega
    rw [if_pos k2] at hG
    have ih:=IH (mid - a) (by omega) a mid X.lim d4 hn4 g1 (by omega) (Nat.le_refl _) (by omega) g4
    obtain ⟨l1,l2⟩:=Go.Sort.pdq_sorts (ltI l L) hS d4 a mid X.lim true true g1 (by omega) g4
    obtain ⟨l3,_⟩:=g6 _ l1 l2
    have hn5:=l1.1.trans hn4
    refine jA ?_
    refine RG.ownK [(210,210),(201,201)] [(210,210),(201,201)] 201 201 (rowLen (l1.1)) (fun q=>ih q) rfl rfl rfl rfl rfl rfl rfl rfl rfl rfl rfl rfl rfl ?_
    refine wH rfl ?_;refine jA ?_
    exact ⟨((mid+1,b,X.lim),(decide (mid - a>=(b - a) / 8),ap),Go.Sort.pdq (ltI l L) d4 a mid X.lim true true),⟨⟨⟨by show mid+1<=b;omega,hb,by show b - (mid+1)<=f;omega,by show X.lim<=1000;omega,hn5,l3⟩,hG⟩,by show b - (mid+1)<b - a;omega⟩,⟨Rn.rowIs rfl rfl rfl,Rn.is (congrArg (AV.i .i64) wI) rfl,Rn.is rfl rfl,Rn.is rfl rfl,Rn.fnO rfl rfl rfl,Rn.is (congrArg AV.b (decide_eq_decide.2 (by omega))) rfl,Rn.is rfl rfl,trivial⟩,io_end rfl rfl rfl rfl rfl (rfl) (rowFit hn5)⟩
  · have k2 : ¬ mid - a < b - mid := by
      have:=of_decide_eq_false h2
      omega
    rw [if_neg k2] at hG
    have ih:=IH (b - (mid+1)) (by omega) (mid+1) b X.lim d4 hn4 (by omega) hb (Nat.le_refl _) (by omega) g5
    obtain ⟨l1,l2⟩:=Go.Sort.pdq_sorts (ltI l L) hS d4 (mid+1) b X.lim true true (by omega) (by omega) g5
    obtain ⟨l3,_⟩:=g7 _ l1 l2
    have hn5:=l1.1.trans hn4
    refine jB ?_;refine wF ?_;refine wH rfl ?_;refine jB ?_
    refine AW.text ?_
    refine RG.runO ty_ok 0 [(142,.i .i64 ((mid+1:Nat):Int))] 400 rfl jD ?_
    refine RG.ownK [(210,210),(201,201)] [(210,210),(201,201)] 201 201 (rowLen (l1.1)) (fun q=>ih q) rfl rfl rfl rfl rfl rfl rfl rfl rfl rfl rfl rfl rfl ?_
    refine wH rfl ?_;refine jA ?_
    exact ⟨((a,mid,X.lim),(decide (b - mid>=(b - a) / 8),ap),Go.Sort.pdq (ltI l L) d4 (mid+1) b X.lim true true),⟨⟨⟨g1,by show mid<=n;omega,by show mid - a<=f;omega,by show X.lim<=1000;omega,hn5,l3⟩,hG⟩,by show mid - a<b - a;omega⟩,⟨Rn.rowIs rfl rfl rfl,Rn.is rfl rfl,Rn.is rfl rfl,Rn.is rfl rfl,Rn.fnO rfl rfl rfl,Rn.is (congrArg AV.b (decide_eq_decide.2 (by omega))) rfl,Rn.is rfl rfl,trivial⟩,io_end rfl rfl rfl rfl rfl (rfl) (rowFit hn5)⟩
end Go.Proofs.YtoaibdbehlcnfaaGreat.Sm
end
section
namespace Go.Proofs.YtoaibdbehlcnfaaGreat.Sm
open Go.RowKit
open Go.Sort (swp)
open Go.Sort (SWO Below PermIn SortedIn)
theorem ltI_iff {l:List Rl} {L:Nat} {x y:Fin (L+1)}:ltI l L x y=true↔prioAt l y.1<prioAt l x.1\/(prioAt l y.1=prioAt l x.1/\x.1<y.1):=by
  rw [ltI,decide_eq_true_eq,cmpR]
  generalize prioAt l y.1=p
  generalize prioAt l x.1=r
  by_cases h1:p<r
  · have e:cmpI p r = -1:=by rw [cmpI,if_pos h1]
    rw [e]
    exact ⟨fun _=>.inl h1,fun _=>by rw [orI,if_pos (by decide)];decide⟩
  by_cases h2:r<p
  · have e:cmpI p r=1:=by rw [cmpI,if_neg h1,if_pos h2]
    rw [e]
    exact ⟨fun h=>absurd h (by simp [orI]),fun h=>by omega⟩
  have e:cmpI p r=0:=by rw [cmpI,if_neg h1,if_neg h2]
  rw [e]
  have hpr:p=r:=by omega
  by_cases h3:x.1<y.1
  · have e:cmpI ((x.1:Nat):Int) ((y.1:Nat):Int) = -1:=by rw [cmpI,if_pos (by omega)]
    rw [e]
    exact ⟨fun _=>.inr ⟨hpr,h3⟩,fun _=>by decide⟩
  by_cases h4:y.1<x.1
  · have e:cmpI ((x.1:Nat):Int) ((y.1:Nat):Int)=1:=by rw [cmpI,if_neg (by omega),if_pos (by omega)]
    rw [e]
    exact ⟨fun h=>absurd h (by simp [orI]),fun h=>by omega⟩
  have e:cmpI ((x.1:Nat):Int) ((y.1:Nat):Int)=0:=by rw [cmpI,if_neg (by omega),if_neg (by omega)]
  rw [e]
  exact ⟨fun h=>absurd h (by simp [orI]),fun h=>by omega⟩
theorem ltI_no {l:List Rl} {L:Nat} {x y:Fin (L+1)}:ltI l L x y=false↔¬(prioAt l y.1<prioAt l x.1\/(prioAt l y.1=prioAt l x.1/\x.1<y.1)):=by
 rw [<- ltI_iff,Bool.not_eq_true]
theorem swo_ltI (l:List Rl) (L:Nat):SWO (ltI l L) where
 irrefl x:=by rw [ltI_no];omega
 trans x y z h1 h2:=by rw [ltI_iff] at *;omega
 ntrans x y z h1 h2:=by rw [ltI_no] at *;omega
theorem m_sortI (l:List Rl) (L:Nat) (hL:l.length=L+1) (n:Nat) (hl:n<=100000) (h256:n<256) (d:Array (Fin (L+1))) (hn:d.size=n) (q:Nat->Option (Nat × Nat)):MDoes Tryz.prog 299 [.row 201 0 0 n,.fn 300 [.own 210 0 0] []] (gl q [210,201] (ioB l n (d))) (.tup []) (gl q [210,201] (ioB l n (Go.Sort.pdq (ltI l L) d 0 n (Go.Sort.bitsLen n) true true))):=by
 refine MDoes.of_body Tryz.func299 rfl (by kernel_rfl) rfl rfl ?_
 have hr:=d_LenX (ofI64 ((n:Nat):Int)) (by rw [ofI_len h256];exact h256)
 rw [ofI_len h256] at hr
 have h8:=bitsLen_8 h256
 have hp:=m_pdq l L hL n hl h256 (swo_ltI l L) n 0 n (Go.Sort.bitsLen n) d hn (Nat.zero_le _) (Nat.le_refl _) (Nat.sub_le _ _) (by omega) (.inl rfl)
 obtain ⟨l1,_⟩:=Go.Sort.pdq_sorts (ltI l L) (swo_ltI l L) d 0 n (Go.Sort.bitsLen n) true true (Nat.zero_le _) (by omega) (.inl rfl)
 refine jA ?_
 refine RG.callS rfl rfl rfl rfl rfl hr rfl rfl ?_
 refine wH rfl ?_
 refine RG.ownK [(210,210),(201,201)] [(210,210),(201,201)] 201 201 (rowLen (l1.1)) (fun q=>hp q) rfl rfl rfl rfl rfl rfl rfl rfl rfl rfl rfl rfl rfl ?_
 refine wH rfl ?_;refine jA ?_
 exact retM0 rfl (.inl rfl) (io_end rfl rfl rfl rfl rfl (rfl) (rowFit (l1.1.trans hn)))
def idsA (L:Nat):Array (Fin (L+1)):=Array.ofFn id
theorem idsA_sz (L:Nat):(idsA L).size=L+1:=by simp [idsA]
theorem idsA_val (L:Nat):(idsA L).toList.map (fun x=>x.1)=List.range (L+1):=by
 apply List.ext_getElem
 ·simp [idsA]
 ·intro i h1 h2
  rw [List.getElem_map,Array.getElem_toList]
  simp only [idsA,Array.getElem_ofFn,List.getElem_range]
  rfl
theorem idsA_row (L:Nat):(List.range (L+1)).map numN=(idsA L).toList.map numF:=by
 rw [<- idsA_val,List.map_map];rfl
theorem extract_all {α:Type} (d:Array α) {n:Nat} (h:d.size=n):d.extract 0 n=d:=by
 subst h
 simp
theorem rowAllF {L:Nat} {D:Array (Fin (L+1))} (h:D.size=L+1):AV.sl (((D.toList.map numF).drop 0).take (L+1))=AV.sl (D.toList.map numF):=by
 rw [List.drop_zero,List.take_of_length_le (by rw [List.length_map,Array.length_toList,h];exact Nat.le_refl _)]
theorem look_any (l:List Rl) (hl:l.length<256):LookOk l:=by
  cases hlen:l.length with
  | zero =>
    obtain rfl:l=[]:=List.length_eq_zero_iff.1 hlen
    exact look_falls (fun k x y h=>by simp at h) (by decide)
  | succ L =>
  have hS:=swo_ltI l L
  obtain ⟨l1,l2⟩:=Go.Sort.pdq_sorts (ltI l L) hS (idsA L) 0 (L+1) (Go.Sort.bitsLen (L+1)) true true (Nat.zero_le _) (by rw [idsA_sz];exact Nat.le_refl _) (.inl rfl)
  have hm:=m_sortI l L hlen (L+1) (by omega) (by omega) (idsA L) (idsA_sz L)
  generalize Go.Sort.pdq (ltI l L) (idsA L) 0 (L+1) (Go.Sort.bitsLen (L+1)) true true=D at l1 l2 hm
  have hD:D.size=L+1:=l1.1.trans (idsA_sz L)
  refine ⟨D.toList.map (fun x=>x.1),?_,?_,?_⟩
  · have h3:=l1.2.2
    rw [extract_all _ hD,extract_all _ (idsA_sz L)] at h3
    rw [hlen,<- idsA_val]
    exact h3.map _
  · rw [List.pairwise_iff_getElem]
    intro i j hi hj hij
    rw [List.length_map,Array.length_toList] at hi hj
    have h4:=l2 i j (Nat.zero_le _) hij (by omega)
    rw [ltI_no] at h4
    rw [List.getElem_map,List.getElem_map,Array.getElem_toList,Array.getElem_toList,<- getElem!_pos D i hi,<- getElem!_pos D j hj]
    generalize D[i]! = x at h4
    generalize D[j]! = y at h4
    show prioAt l y.1<prioAt l x.1\/(prioAt l y.1=prioAt l x.1/\x.1<=y.1)
    omega
  rw [show (D.toList.map (fun x=>x.1)).map numN=D.toList.map numF by rw [List.map_map];rfl]
  refine PDoes.of_bodyN Tryz.func285 rfl (by kernel_rfl) rfl rfl ?_
  refine jB ?_;refine wF ?_;refine wH rfl ?_;refine jB ?_;refine wF ?_;refine wH rfl ?_;refine jB ?_
  refine AW.nilRow 40 0 3 1 [(0,.sl (l.map cRl)),(3,.own 7 0 0)] [(7,⟨0,some (.box 368 [.sl (l.map cRl),.row 40 0 0 0])⟩),(40,⟨0,some (.row 3 1 [])⟩)] ⟨.rn (Rn.is rfl rfl),.rn (Rn.ownIs rfl rfl rfl),trivial⟩ ⟨.boxL rfl ⟨RnN.is rfl rfl,.nil rfl,trivial⟩ rfl,.old (.row rfl rfl),trivial⟩ ?_
  refine jA ?_
  have hmx:l.length<=9223372036854775807:=by omega
  refine AW.loopL (ι:=Nat × List Nat) (fun i=>[(3,.own 7 0 0),(8,.sl (l.map cRl)),(9,.i .i64 (l.map cRl).length),(10,.i .i64 (i.1:Nat))]) (fun i=>[(7,⟨0,some (.box 368 [.sl (l.map cRl),.row 40 0 0 (i.2.map numN).length])⟩),(40,⟨0,some (.row 3 1 (i.2.map numN))⟩)]) (fun i=>i.1<=l.length/\i.2=List.range i.1) (fun i=>l.length - i.1) (0,[]) ⟨Nat.zero_le _,rfl⟩ jW ⟨.boxL rfl ⟨Rn.is rfl rfl,Rn.rowIs rfl rfl rfl,trivial⟩ rfl,.row rfl rfl,trivial⟩ fun i hi=>?_
  obtain ⟨k,out⟩:=i
  obtain ⟨hk,ho⟩:=hi
  simp only at hk ho
  refine jA ?_
  refine AW.cond rfl (fun h0=>?_) (fun h0=>?_)
  · have h:k<l.length:=by simpa using h0
    have hL:out.length<=100000000:=by rw [ho,List.length_range];omega
    refine jA ?_
    refine RG.opS rfl (op_app1 numN out k hL rfl rfl rfl rfl (tab_ok ty_ok rfl) rfl (tab_ok ty_ok rfl) rfl rfl ⟨_,rfl,rfl⟩ rfl rfl) rfl ?_;refine wH rfl ?_;refine jA ?_
    exact ⟨(k+1,out++[k]),⟨⟨h,by show out++[k]=List.range (k+1);rw [ho,List.range_succ]⟩,by show l.length - (k+1)<l.length - k;omega⟩,jV,⟨.boxL rfl ⟨Rn.is rfl rfl,Rn.rowIs rfl rfl rfl,trivial⟩ rfl,.row rfl rfl,trivial⟩⟩
  · have h:¬k<l.length:=by simpa using h0
    obtain rfl:k=l.length:=by omega
    rw [hlen] at ho
    have hrow:out.map numN=(idsA L).toList.map numF:=by rw [ho,idsA_row]
    have hlo:(out.map numN).length=L+1:=by rw [hrow,List.length_map,Array.length_toList,idsA_sz]
    refine AW.only [(3,.own 7 0 0)] [(7,⟨0,some (.box 368 [.sl (l.map cRl),.row 40 0 0 (L+1)])⟩),(40,⟨0,some (.row 3 1 ((idsA L).toList.map numF))⟩)] ⟨Rn.ownIs rfl rfl rfl,trivial⟩ ⟨.boxL rfl ⟨Rn.is rfl rfl,Rn.rowTIs (by rw [<- hlo]) rfl rfl (rowFit (idsA_sz L)),trivial⟩ rfl,.row rfl hrow,trivial⟩ ?_
    refine jA ?_
    refine AW.exit ?_;refine Eq.mpr (if_pos rfl) ?_;refine jA ?_
    refine RG.ownK [(7,210),(40,201)] [(210,7),(201,40)] 40 201 (rowLen l1.1) hm rfl rfl rfl rfl rfl rfl rfl rfl rfl rfl rfl rfl rfl ?_
    refine wH rfl ?_;refine jA ?_
    refine AW.ret (retQA ty_ok rfl rfl rfl ?_)
    exact rowAllF hD
end Go.Proofs.YtoaibdbehlcnfaaGreat.Sm
end
section
namespace Go.Proofs.YtoaibdbehlcnfaaGreat.Sm
open Go.RowKit
def lnCube:Cb:=⟨⟨0,1⟩,⟨0,1⟩⟩
def lnDrop:Rl:=⟨0,Cb.zero,⟨1,0,0,Cb.zero⟩⟩
def lnR0:List Rl:=[⟨1,lnCube,⟨3,1,0,Cb.zero⟩⟩,lnDrop]
def lnR1:List Rl:=[⟨1,lnCube,⟨2,1,0,Cb.zero⟩⟩,lnDrop]
def lnPorts:List (List Pt):=[[⟨1,0,0,0,0⟩,⟨2,0,1,0,1⟩],[⟨2,0,0,1,1⟩,⟨1,0,0,0,0⟩]]
def lineC:Cf:=⟨⟨lnPorts⟩,⟨1,[],[]⟩,[[lnR0],[lnR1]]⟩
def lnB:List (Nat × SB):=[(300,⟨0,some (.box 47 [.ref 301 0 (.sl 0 1 1),.ref 302 0 (.sl 0 1 1)])⟩),(301,⟨0,some (.box 48 [.row 24 0 0 2])⟩),(302,⟨0,some (.box 48 [.row 30 0 0 2])⟩),(24,⟨0,some (.row 40 12 (lnR0.map cRl))⟩),(30,⟨0,some (.row 40 12 (lnR1.map cRl))⟩),(12,⟨0,some (.row 115 1 (lnPorts.map cPts))⟩)]
def lnV:AV:=.agg [.row 12 0 0 2,.i .i64 1,.sl [],.sl [],.ref 300 0 (.sl 0 2 2)]
def RmL (π:List (Nat × Nat)) (σ σ':Sto):List AV->List AV->Prop
 | [],[]=>True
 | x::xs,y::ys=>(Rm π σ σ' x y/\y.one=true)/\RmL π σ σ' xs ys
 | _,_=>False
theorem RmL.ok {π:List (Nat × Nat)} {σ σ':Sto}:∀{xs ys:List AV},RmL π σ σ' xs ys->ys.length=xs.length/\∀(j:Nat) (x y:AV),xs[j]?=some x->ys[j]?=some y->Rm π σ σ' x y/\y.one=true
 | [],[],_=>⟨rfl,fun j x y h=>by simp at h⟩
 | x::xs,y::ys,h=>by
  obtain ⟨h1,h2⟩:=h
  obtain ⟨g1,g2⟩:=RmL.ok h2
  refine ⟨by rw [List.length_cons,List.length_cons,g1],fun j a b ha hb=>?_⟩
  cases j with
  | zero =>
   obtain rfl:x=a:=by simpa using ha
   obtain rfl:y=b:=by simpa using hb
   exact h1
  | succ j=>exact g2 j a b (by simpa using ha) (by simpa using hb)
 | [],y::ys,h=>h.elim
 | x::xs,[],h=>h.elim
theorem Rm.aggL {π:List (Nat × Nat)} {σ σ':Sto} {z:AV} {xs ys:List AV} (e:z = .agg xs) (h:RmL π σ σ' xs ys):Rm π σ σ' z (.agg ys):=by
 subst e
 obtain ⟨g1,g2⟩:=h.ok
 refine .agg g1 (fun j y hy=>?_) fun j x y hx hy=>(g2 j x y hx hy).1
 obtain ⟨x,hx⟩:∃x,xs[j]?=some x:=⟨_,List.getElem?_eq_getElem (by rw [<- g1];exact (List.getElem?_eq_some_iff.1 hy).1)⟩
 exact (g2 j x y hx hy).2
theorem Rm.refIs {π:List (Nat × Nat)} {σ σ':Sto} {x:AV} {id id' ep ep':Nat} {k:RK} {bd bd':Body} (e:x = .ref id ep k) (hm:lkP π id=some id') (h:σ id=⟨ep,some bd⟩) (h':σ' id'=⟨ep',some bd'⟩):Rm π σ σ' x (.ref id' ep' k):=e ▸ .ref (lkP_ok hm) h h'
theorem m_line28 (q:Nat->Option (Nat × Nat)):MDoes Tryz.prog 43 [] (gl q [] []) lnV (gl q [] lnB):=by
 refine MDoes.of_body Tryz.func43 rfl (by kernel_rfl) rfl rfl ?_
 refine jB ?_
 refine wF ?_;refine wH rfl ?_;refine jB ?_
 refine wF ?_;refine wH rfl ?_;refine jB ?_
 refine wF ?_;refine wH rfl ?_;refine jB ?_
 refine wF ?_;refine wH rfl ?_;refine jB ?_
 refine wF ?_;refine wH rfl ?_;refine jB ?_
 refine AW.text ?_
 refine RG.runG ty_ok 0 5 rfl ?_
 refine RG.opS rfl (op_buildRef (id:=301) rfl (tab_ok ty_ok rfl) rfl (tab_ok ty_ok rfl) rfl (by decide) rfl rfl rfl rfl rfl) rfl ?_
 refine RG.runG ty_ok 0 5 rfl ?_
 refine RG.opS rfl (op_buildRef (id:=302) rfl (tab_ok ty_ok rfl) rfl (tab_ok ty_ok rfl) rfl (by decide) rfl rfl rfl rfl rfl) rfl ?_
 refine RG.opS rfl (op_buildRef (id:=300) rfl (tab_ok ty_ok rfl) rfl (tab_ok ty_ok rfl) rfl (by decide) rfl rfl rfl rfl rfl) rfl ?_
 refine wH rfl ?_;refine jA ?_
 refine AW.ret (retMA ty_ok rfl rfl (Rm.aggL rfl ⟨⟨Rm.rowIs rfl rfl rfl rfl,rfl⟩,⟨Rm.is rfl rfl,rfl⟩,⟨.nil,rfl⟩,⟨.nil,rfl⟩,⟨Rm.refIs rfl rfl rfl rfl,rfl⟩,trivial⟩) ⟨.boxL rfl ⟨Rn.refIs rfl rfl rfl,Rn.refIs rfl rfl rfl,trivial⟩ rfl,.boxL rfl ⟨Rn.rowIs rfl rfl rfl,trivial⟩ rfl,.boxL rfl ⟨Rn.rowIs rfl rfl rfl,trivial⟩ rfl,.row rfl rfl,.row rfl rfl,.row rfl rfl,trivial⟩)
end Go.Proofs.YtoaibdbehlcnfaaGreat.Sm
end
section
namespace Go.Proofs.YtoaibdbehlcnfaaGreat.Sm
open Go.RowKit
theorem looks_of {c:Cf} (h:∀tb∈c.tables,∀l∈tb,Falls l/\l.length<=12):LooksOk c:=by
 intro n t
 have h0:LookOk []:=look_falls (fun k x y h=>by simp at h) (Nat.zero_le _)
 rw [tabOf,List.getD_eq_getElem?_getD,List.getD_eq_getElem?_getD]
 cases h1:c.tables[n]? with
 | none=>exact h0
 | some tb =>
  show LookOk (tb[t]?.getD [])
  cases h2:tb[t]? with
  | none=>exact h0
  | some l =>
   obtain ⟨g1,g2⟩:=h tb (List.mem_of_getElem? h1) l (List.mem_of_getElem? h2)
   exact look_falls g1 g2
theorem falls0:Falls lnR0:=by
 intro k x y hx hy
 match k with
 | 0 =>
  obtain rfl:=Option.some.inj hx
  obtain rfl:=Option.some.inj hy
  decide
 | k+1=>simp [lnR0] at hy
theorem falls1:Falls lnR1:=by
 intro k x y hx hy
 match k with
 | 0 =>
  obtain rfl:=Option.some.inj hx
  obtain rfl:=Option.some.inj hy
  decide
 | k+1=>simp [lnR1] at hy
theorem lineC_looks:LooksOk lineC:=looks_of (by
 intro tb htb l hl
 simp only [lineC,List.mem_cons,List.not_mem_nil,or_false] at htb
 rcases htb with rfl | rfl
 ·simp only [List.mem_cons,List.not_mem_nil,or_false] at hl
  subst hl
  exact ⟨falls0,by decide⟩
 ·simp only [List.mem_cons,List.not_mem_nil,or_false] at hl
  subst hl
  exact ⟨falls1,by decide⟩)
end Go.Proofs.YtoaibdbehlcnfaaGreat.Sm
end
section
namespace Go.Proofs.YtoaibdbehlcnfaaGreat.Sm
open Go.RowKit
theorem small_of {c:Cf} (h:c.tables.all (fun t=>Nat.ble t.flatten.length 1000)=true):c.Small:=fun t ht=>by
 have:=Nat.le_of_ble_eq_true (List.all_eq_true.1 h t ht)
 omega
end Go.Proofs.YtoaibdbehlcnfaaGreat.Sm
end
section
namespace Go.Proofs.YtoaibdbehlcnfaaGreat.Sm
open Go.RowKit
theorem flat_mem {α:Type} {l:List α}:∀{ls:List (List α)},l∈ls->l.length<=ls.flatten.length
 | x::ls,h=>by
  rw [List.flatten_cons,List.length_append]
  rcases List.mem_cons.1 h with rfl | h
  ·omega
  ·have:=flat_mem h
   omega
theorem Cf.small {c:Cf} (h0:c.sound=0) (hL:c.Lens):c.Small:=by
 have hc:=Cf.ok h0
 intro t ht
 obtain ⟨n,hn⟩:=List.mem_iff_getElem?.1 ht
 have h3:=(tabSound_ok (hc.tabs n t hn)).2.1
 have h4:=flat_bound t (hL t ht)
 have h5:reachBytes*t.length<=reachBytes*3:=Nat.mul_le_mul_left _ h3
 have h6:reachBytes*3<=1000000000000000:=by decide
 omega
theorem looks_any {c:Cf} (h0:c.sound=0) (hL:c.Lens):LooksOk c:=by
 have hc:=Cf.ok h0
 have hs:=Cf.small h0 hL
 intro n t
 have hnil:LookOk []:=look_any [] (by decide)
 rw [tabOf,List.getD_eq_getElem?_getD,List.getD_eq_getElem?_getD]
 cases h1:c.tables[n]? with
 | none=>exact hnil
 | some tb =>
  show LookOk (tb[t]?.getD [])
  cases h2:tb[t]? with
  | none=>exact hnil
  | some l =>
   have h3:=tabSound_ok (hc.tabs n tb h1)
   have h4:=hs tb (List.mem_of_getElem? h1)
   have h5:=countT_len tb 0 (by omega)
   have h6:=flat_mem (List.mem_of_getElem? h2)
   have h7:((0:Nat):Int)=0:=rfl
   rw [h7] at h5
   exact look_any l (by omega)
def sortG (l:List Cb):List Cb:=(stable ltC l.toArray).toList
theorem sortG_perm (l:List Cb):(sortG l).Perm l:=stable_perm l
end Go.Proofs.YtoaibdbehlcnfaaGreat.Sm
end
section
namespace Go.Proofs.YtoaibdbehlcnfaaGreat.Sm
open Go.RowKit
def Hop.zero:Hop:=⟨0,0,0,Hd.zero⟩
end Go.Proofs.YtoaibdbehlcnfaaGreat.Sm
end
section
namespace Go.Proofs.YtoaibdbehlcnfaaGreat.Sm
open Go.RowKit
end Go.Proofs.YtoaibdbehlcnfaaGreat.Sm
end
section
namespace Go.Proofs.YtoaibdbehlcnfaaGreat.Sm
open Go.RowKit
end Go.Proofs.YtoaibdbehlcnfaaGreat.Sm
end
section
namespace Go.Proofs.YtoaibdbehlcnfaaGreat.Sm
open Go.RowKit
end Go.Proofs.YtoaibdbehlcnfaaGreat.Sm
end
section
namespace Go.Proofs.YtoaibdbehlcnfaaGreat.Sm
open Go.RowKit
end Go.Proofs.YtoaibdbehlcnfaaGreat.Sm
end
section
namespace Go.Proofs.YtoaibdbehlcnfaaGreat.Sm
open Go.RowKit
end Go.Proofs.YtoaibdbehlcnfaaGreat.Sm
end
section
namespace Go.Proofs.YtoaibdbehlcnfaaGreat.Sm
open Go.RowKit
theorem eq_len {α:Type} [DecidableEq α] {a b:List α} (h:¬a.length=b.length):decide (a=b)=false:=decide_eq_false fun e=>h (congrArg List.length e)
theorem eq_step {α:Type} [DecidableEq α] {x y:α} {a b:List α}:decide (x::a=y::b)=(decide (x=y) && decide (a=b)):=by
 rw [Bool.eq_iff_iff];simp
theorem d_Equal_Pr (a b:List (Int × Int)) (q:Bool) (hq:decide (a=b)=q):PDoes Tryz.prog 190 [.sl (a.map cPr),.sl (b.map cPr)] (.b q):=by
  refine PDoes.of_bodyN Tryz.func190 rfl (by kernel_rfl) rfl rfl ?_
  have la:(a.map cPr).length=a.length:=List.length_map ..
  have lb:(b.map cPr).length=b.length:=List.length_map ..
  refine jA ?_
  refine AW.cond rfl (fun h=>?_) (fun h=>?_)
  · have h:¬a.length=b.length:=by simp at h;omega
    rw [eq_len h] at hq
    refine jA ?_
    refine AW.ret (retQA ty_ok rfl rfl rfl ?_)
    exact congrArg AV.b hq
  have h:a.length=b.length:=by simp at h;omega
  refine jA ?_
  refine AW.lens 0 rfl fun hm=>?_
  rw [List.length_map] at hm
  refine AW.loopL (ι:=Nat) (fun k=>[(0,.sl (a.map cPr)),(1,.sl (b.map cPr)),(12,.i .i64 (a.map cPr).length),(13,.i .i64 (k:Nat))]) (fun _=>[]) (fun k=>k<=a.length/\decide (a.drop k=b.drop k)=q) (fun k=>a.length - k) 0 ⟨Nat.zero_le _,hq⟩ jW trivial fun k hk=>?_
  clear hq
  obtain ⟨hk,hf⟩:=hk
  refine jA ?_
  refine AW.cond rfl (fun h1=>?_) (fun h1=>?_)
  rotate_left
  · have h':¬k<a.length:=by simpa using h1
    obtain rfl:k=a.length:=by omega
    rw [List.drop_length,h,List.drop_length] at hf
    refine jA ?_
    refine AW.exit ?_;refine Eq.mpr (if_pos rfl) ?_;refine jA ?_
    refine AW.ret (retQA ty_ok rfl rfl rfl ?_)
    exact congrArg AV.b hf
  have h':k<a.length:=by simpa using h1
  have h'':k<b.length:=by omega
  rw [List.drop_eq_getElem_cons h',List.drop_eq_getElem_cons h'',eq_step] at hf
  have hax:(a.map cPr)[k]?=some (cPr a[k]):=by rw [List.getElem?_map,List.getElem?_eq_getElem h'];rfl
  have hbx:(b.map cPr)[k]?=some (cPr b[k]):=by rw [List.getElem?_map,List.getElem?_eq_getElem h''];rfl
  generalize a[k]=x at hf hax
  generalize b[k]=y at hf hbx
  refine jA ?_
  refine RG.opS rfl (op_index rfl (tab_ok ty_ok rfl) rfl (tab_ok ty_ok rfl) rfl rfl hax rfl) rfl ?_
  refine wH rfl ?_
  refine RG.opS rfl (op_index rfl (tab_ok ty_ok rfl) rfl (tab_ok ty_ok rfl) rfl rfl hbx rfl) rfl ?_
  refine wH rfl ?_
  by_cases e:x=y
  · rw [decide_eq_true e,Bool.true_and] at hf
    refine RG.opS rfl (op_neG rfl ty_ok (by kernel_rfl) (by kernel_rfl) rfl rfl (eq_Pr x y) (congrArg Bool.not (decide_eq_true e))) rfl ?_
    refine wH rfl ?_;refine jA ?_;refine AW.condF rfl ?_;refine jA ?_
    exact ⟨k+1,⟨⟨h',hf⟩,by omega⟩,⟨rI rfl rfl,rI rfl rfl,rI rfl rfl,rI (i64_next h' hm) rfl,trivial⟩,trivial⟩
  · rw [decide_eq_false e] at hf
    refine RG.opS rfl (op_neG rfl ty_ok (by kernel_rfl) (by kernel_rfl) rfl rfl (eq_Pr x y) (congrArg Bool.not (decide_eq_false e))) rfl ?_
    refine wH rfl ?_;refine jA ?_;refine AW.condT rfl ?_;refine jA ?_
    refine AW.ret (retQA ty_ok rfl rfl rfl ?_)
    exact congrArg AV.b hf
theorem d_Equal_Wy (a b:List (Wy)) (q:Bool) (hq:decide (a=b)=q):PDoes Tryz.prog 191 [.sl (a.map cWy),.sl (b.map cWy)] (.b q):=by
  refine PDoes.of_bodyN Tryz.func191 rfl (by kernel_rfl) rfl rfl ?_
  have la:(a.map cWy).length=a.length:=List.length_map ..
  have lb:(b.map cWy).length=b.length:=List.length_map ..
  refine jA ?_
  refine AW.cond rfl (fun h=>?_) (fun h=>?_)
  · have h:¬a.length=b.length:=by simp at h;omega
    rw [eq_len h] at hq
    refine jA ?_
    refine AW.ret (retQA ty_ok rfl rfl rfl ?_)
    exact congrArg AV.b hq
  have h:a.length=b.length:=by simp at h;omega
  refine jA ?_
  refine AW.lens 0 rfl fun hm=>?_
  rw [List.length_map] at hm
  refine AW.loopL (ι:=Nat) (fun k=>[(0,.sl (a.map cWy)),(1,.sl (b.map cWy)),(12,.i .i64 (a.map cWy).length),(13,.i .i64 (k:Nat))]) (fun _=>[]) (fun k=>k<=a.length/\decide (a.drop k=b.drop k)=q) (fun k=>a.length - k) 0 ⟨Nat.zero_le _,hq⟩ jW trivial fun k hk=>?_
  clear hq
  obtain ⟨hk,hf⟩:=hk
  refine jA ?_
  refine AW.cond rfl (fun h1=>?_) (fun h1=>?_)
  rotate_left
  · have h':¬k<a.length:=by simpa using h1
    obtain rfl:k=a.length:=by omega
    rw [List.drop_length,h,List.drop_length] at hf
    refine jA ?_
    refine AW.exit ?_;refine Eq.mpr (if_pos rfl) ?_;refine jA ?_
    refine AW.ret (retQA ty_ok rfl rfl rfl ?_)
    exact congrArg AV.b hf
  have h':k<a.length:=by simpa using h1
  have h'':k<b.length:=by omega
  rw [List.drop_eq_getElem_cons h',List.drop_eq_getElem_cons h'',eq_step] at hf
  have hax:(a.map cWy)[k]?=some (cWy a[k]):=by rw [List.getElem?_map,List.getElem?_eq_getElem h'];rfl
  have hbx:(b.map cWy)[k]?=some (cWy b[k]):=by rw [List.getElem?_map,List.getElem?_eq_getElem h''];rfl
  generalize a[k]=x at hf hax
  generalize b[k]=y at hf hbx
  refine jA ?_
  refine RG.opS rfl (op_index rfl (tab_ok ty_ok rfl) rfl (tab_ok ty_ok rfl) rfl rfl hax rfl) rfl ?_
  refine wH rfl ?_
  refine RG.opS rfl (op_index rfl (tab_ok ty_ok rfl) rfl (tab_ok ty_ok rfl) rfl rfl hbx rfl) rfl ?_
  refine wH rfl ?_
  by_cases e:x=y
  · rw [decide_eq_true e,Bool.true_and] at hf
    refine RG.opS rfl (op_neG rfl ty_ok (by kernel_rfl) (by kernel_rfl) rfl rfl (eq_Wy x y) (congrArg Bool.not (decide_eq_true e))) rfl ?_
    refine wH rfl ?_;refine jA ?_;refine AW.condF rfl ?_;refine jA ?_
    exact ⟨k+1,⟨⟨h',hf⟩,by omega⟩,⟨rI rfl rfl,rI rfl rfl,rI rfl rfl,rI (i64_next h' hm) rfl,trivial⟩,trivial⟩
  · rw [decide_eq_false e] at hf
    refine RG.opS rfl (op_neG rfl ty_ok (by kernel_rfl) (by kernel_rfl) rfl rfl (eq_Wy x y) (congrArg Bool.not (decide_eq_false e))) rfl ?_
    refine wH rfl ?_;refine jA ?_;refine AW.condT rfl ?_;refine jA ?_
    refine AW.ret (retQA ty_ok rfl rfl rfl ?_)
    exact congrArg AV.b hf
theorem d_Equal_Pt (a b:List (Pt)) (q:Bool) (hq:decide (a=b)=q):PDoes Tryz.prog 245 [.sl (a.map cPt),.sl (b.map cPt)] (.b q):=by
  refine PDoes.of_bodyN Tryz.func245 rfl (by kernel_rfl) rfl rfl ?_
  have la:(a.map cPt).length=a.length:=List.length_map ..
  have lb:(b.map cPt).length=b.length:=List.length_map ..
  refine jA ?_
  refine AW.cond rfl (fun h=>?_) (fun h=>?_)
  · have h:¬a.length=b.length:=by simp at h;omega
    rw [eq_len h] at hq
    refine jA ?_
    refine AW.ret (retQA ty_ok rfl rfl rfl ?_)
    exact congrArg AV.b hq
  have h:a.length=b.length:=by simp at h;omega
  refine jA ?_
  refine AW.lens 0 rfl fun hm=>?_
  rw [List.length_map] at hm
  refine AW.loopL (ι:=Nat) (fun k=>[(0,.sl (a.map cPt)),(1,.sl (b.map cPt)),(12,.i .i64 (a.map cPt).length),(13,.i .i64 (k:Nat))]) (fun _=>[]) (fun k=>k<=a.length/\decide (a.drop k=b.drop k)=q) (fun k=>a.length - k) 0 ⟨Nat.zero_le _,hq⟩ jW trivial fun k hk=>?_
  clear hq
  obtain ⟨hk,hf⟩:=hk
  refine jA ?_
  refine AW.cond rfl (fun h1=>?_) (fun h1=>?_)
  rotate_left
  · have h':¬k<a.length:=by simpa using h1
    obtain rfl:k=a.length:=by omega
    rw [List.drop_length,h,List.drop_length] at hf
    refine jA ?_
    refine AW.exit ?_;refine Eq.mpr (if_pos rfl) ?_;refine jA ?_
    refine AW.ret (retQA ty_ok rfl rfl rfl ?_)
    exact congrArg AV.b hf
  have h':k<a.length:=by simpa using h1
  have h'':k<b.length:=by omega
  rw [List.drop_eq_getElem_cons h',List.drop_eq_getElem_cons h'',eq_step] at hf
  have hax:(a.map cPt)[k]?=some (cPt a[k]):=by rw [List.getElem?_map,List.getElem?_eq_getElem h'];rfl
  have hbx:(b.map cPt)[k]?=some (cPt b[k]):=by rw [List.getElem?_map,List.getElem?_eq_getElem h''];rfl
  generalize a[k]=x at hf hax
  generalize b[k]=y at hf hbx
  refine jA ?_
  refine RG.opS rfl (op_index rfl (tab_ok ty_ok rfl) rfl (tab_ok ty_ok rfl) rfl rfl hax rfl) rfl ?_
  refine wH rfl ?_
  refine RG.opS rfl (op_index rfl (tab_ok ty_ok rfl) rfl (tab_ok ty_ok rfl) rfl rfl hbx rfl) rfl ?_
  refine wH rfl ?_
  by_cases e:x=y
  · rw [decide_eq_true e,Bool.true_and] at hf
    refine RG.opS rfl (op_neG rfl ty_ok (by kernel_rfl) (by kernel_rfl) rfl rfl (eq_Pt x y) (congrArg Bool.not (decide_eq_true e))) rfl ?_
    refine wH rfl ?_;refine jA ?_;refine AW.condF rfl ?_;refine jA ?_
    exact ⟨k+1,⟨⟨h',hf⟩,by omega⟩,⟨rI rfl rfl,rI rfl rfl,rI rfl rfl,rI (i64_next h' hm) rfl,trivial⟩,trivial⟩
  · rw [decide_eq_false e] at hf
    refine RG.opS rfl (op_neG rfl ty_ok (by kernel_rfl) (by kernel_rfl) rfl rfl (eq_Pt x y) (congrArg Bool.not (decide_eq_false e))) rfl ?_
    refine wH rfl ?_;refine jA ?_;refine AW.condT rfl ?_;refine jA ?_
    refine AW.ret (retQA ty_ok rfl rfl rfl ?_)
    exact congrArg AV.b hf
theorem d_Equal_Rl (a b:List (Rl)) (q:Bool) (hq:decide (a=b)=q):PDoes Tryz.prog 247 [.sl (a.map cRl),.sl (b.map cRl)] (.b q):=by
  refine PDoes.of_bodyN Tryz.func247 rfl (by kernel_rfl) rfl rfl ?_
  have la:(a.map cRl).length=a.length:=List.length_map ..
  have lb:(b.map cRl).length=b.length:=List.length_map ..
  refine jA ?_
  refine AW.cond rfl (fun h=>?_) (fun h=>?_)
  · have h:¬a.length=b.length:=by simp at h;omega
    rw [eq_len h] at hq
    refine jA ?_
    refine AW.ret (retQA ty_ok rfl rfl rfl ?_)
    exact congrArg AV.b hq
  have h:a.length=b.length:=by simp at h;omega
  refine jA ?_
  refine AW.lens 0 rfl fun hm=>?_
  rw [List.length_map] at hm
  refine AW.loopL (ι:=Nat) (fun k=>[(0,.sl (a.map cRl)),(1,.sl (b.map cRl)),(12,.i .i64 (a.map cRl).length),(13,.i .i64 (k:Nat))]) (fun _=>[]) (fun k=>k<=a.length/\decide (a.drop k=b.drop k)=q) (fun k=>a.length - k) 0 ⟨Nat.zero_le _,hq⟩ jW trivial fun k hk=>?_
  clear hq
  obtain ⟨hk,hf⟩:=hk
  refine jA ?_
  refine AW.cond rfl (fun h1=>?_) (fun h1=>?_)
  rotate_left
  · have h':¬k<a.length:=by simpa using h1
    obtain rfl:k=a.length:=by omega
    rw [List.drop_length,h,List.drop_length] at hf
    refine jA ?_
    refine AW.exit ?_;refine Eq.mpr (if_pos rfl) ?_;refine jA ?_
    refine AW.ret (retQA ty_ok rfl rfl rfl ?_)
    exact congrArg AV.b hf
  have h':k<a.length:=by simpa using h1
  have h'':k<b.length:=by omega
  rw [List.drop_eq_getElem_cons h',List.drop_eq_getElem_cons h'',eq_step] at hf
  have hax:(a.map cRl)[k]?=some (cRl a[k]):=by rw [List.getElem?_map,List.getElem?_eq_getElem h'];rfl
  have hbx:(b.map cRl)[k]?=some (cRl b[k]):=by rw [List.getElem?_map,List.getElem?_eq_getElem h''];rfl
  generalize a[k]=x at hf hax
  generalize b[k]=y at hf hbx
  refine jA ?_
  refine RG.opS rfl (op_index rfl (tab_ok ty_ok rfl) rfl (tab_ok ty_ok rfl) rfl rfl hax rfl) rfl ?_
  refine wH rfl ?_
  refine RG.opS rfl (op_index rfl (tab_ok ty_ok rfl) rfl (tab_ok ty_ok rfl) rfl rfl hbx rfl) rfl ?_
  refine wH rfl ?_
  by_cases e:x=y
  · rw [decide_eq_true e,Bool.true_and] at hf
    refine RG.opS rfl (op_neG rfl ty_ok (by kernel_rfl) (by kernel_rfl) rfl rfl (eq_Rl x y) (congrArg Bool.not (decide_eq_true e))) rfl ?_
    refine wH rfl ?_;refine jA ?_;refine AW.condF rfl ?_;refine jA ?_
    exact ⟨k+1,⟨⟨h',hf⟩,by omega⟩,⟨rI rfl rfl,rI rfl rfl,rI rfl rfl,rI (i64_next h' hm) rfl,trivial⟩,trivial⟩
  · rw [decide_eq_false e] at hf
    refine RG.opS rfl (op_neG rfl ty_ok (by kernel_rfl) (by kernel_rfl) rfl rfl (eq_Rl x y) (congrArg Bool.not (decide_eq_false e))) rfl ?_
    refine wH rfl ?_;refine jA ?_;refine AW.condT rfl ?_;refine jA ?_
    refine AW.ret (retQA ty_ok rfl rfl rfl ?_)
    exact congrArg AV.b hf
theorem d_EqualFunc_Pts (F:Nat) (H:∀x y:List Pt,PDoes Tryz.prog F [.sl (x.map cPt),.sl (y.map cPt)] (.b (decide (x=y)))) (a b:List (List Pt)) (q:Bool) (hq:decide (a=b)=q):PDoes Tryz.prog 244 [.sl (a.map cPts),.sl (b.map cPts),.fn F [] []] (.b q):=by
  refine PDoes.of_bodyN Tryz.func244 rfl (by kernel_rfl) rfl rfl ?_
  have la:(a.map cPts).length=a.length:=List.length_map ..
  have lb:(b.map cPts).length=b.length:=List.length_map ..
  refine jA ?_
  refine AW.cond rfl (fun h=>?_) (fun h=>?_)
  · have h:¬a.length=b.length:=by simp at h;omega
    rw [eq_len h] at hq
    refine jA ?_
    refine AW.ret (retQA ty_ok rfl rfl rfl ?_)
    exact congrArg AV.b hq
  have h:a.length=b.length:=by simp at h;omega
  refine jA ?_
  refine AW.lens 0 rfl fun hm=>?_
  rw [List.length_map] at hm
  refine AW.loopL (ι:=Nat) (fun k=>[(1,.sl (b.map cPts)),(2,.fn F [] []),(15,.sl (a.map cPts)),(16,.i .i64 (a.map cPts).length),(17,.i .i64 (k:Nat))]) (fun _=>[]) (fun k=>k<=a.length/\decide (a.drop k=b.drop k)=q) (fun k=>a.length - k) 0 ⟨Nat.zero_le _,hq⟩ ⟨rI rfl rfl,Rn.fnF rfl rfl,rI rfl rfl,rI rfl rfl,rI rfl rfl,trivial⟩ trivial fun k hk=>?_
  clear hq
  obtain ⟨hk,hf⟩:=hk
  refine jA ?_
  refine AW.cond rfl (fun h1=>?_) (fun h1=>?_)
  rotate_left
  · have h':¬k<a.length:=by simpa using h1
    obtain rfl:k=a.length:=by omega
    rw [List.drop_length,h,List.drop_length] at hf
    refine jA ?_
    refine AW.exit ?_;refine Eq.mpr (if_pos rfl) ?_;refine jA ?_
    refine AW.ret (retQA ty_ok rfl rfl rfl ?_)
    exact congrArg AV.b hf
  have h':k<a.length:=by simpa using h1
  have h'':k<b.length:=by omega
  rw [List.drop_eq_getElem_cons h',List.drop_eq_getElem_cons h'',eq_step] at hf
  have hax:(a.map cPts)[k]?=some (cPts a[k]):=by rw [List.getElem?_map,List.getElem?_eq_getElem h'];rfl
  have hbx:(b.map cPts)[k]?=some (cPts b[k]):=by rw [List.getElem?_map,List.getElem?_eq_getElem h''];rfl
  generalize a[k]=x at hf hax
  generalize b[k]=y at hf hbx
  refine jA ?_
  refine RG.opS rfl (op_index rfl (tab_ok ty_ok rfl) rfl (tab_ok ty_ok rfl) rfl rfl hax rfl) rfl ?_
  refine wH rfl ?_;refine jA ?_
  refine RG.opS rfl (op_index rfl (tab_ok ty_ok rfl) rfl (tab_ok ty_ok rfl) rfl rfl hbx rfl) rfl ?_
  refine wH rfl ?_;refine jA ?_
  have hx:=H x y
  cases e:decide (x=y)
  · rw [e] at hf hx
    refine RG.callS rfl rfl rfl rfl rfl hx rfl rfl ?_;refine wH rfl ?_;refine jA ?_
    refine AW.condT rfl ?_;refine jA ?_
    refine AW.ret (retQA ty_ok rfl rfl rfl ?_)
    exact congrArg AV.b hf
  · rw [e,Bool.true_and] at hf
    rw [e] at hx
    refine RG.callS rfl rfl rfl rfl rfl hx rfl rfl ?_;refine wH rfl ?_;refine jA ?_
    refine AW.condF rfl ?_;refine jA ?_
    exact ⟨k+1,⟨⟨h',hf⟩,by omega⟩,⟨rI rfl rfl,Rn.fnF rfl rfl,rI rfl rfl,rI rfl rfl,rI (i64_next h' hm) rfl,trivial⟩,trivial⟩
theorem d_EqualFunc_Rls (F:Nat) (H:∀x y:List Rl,PDoes Tryz.prog F [.sl (x.map cRl),.sl (y.map cRl)] (.b (decide (x=y)))) (a b:List (List Rl)) (q:Bool) (hq:decide (a=b)=q):PDoes Tryz.prog 246 [.sl (a.map cRls),.sl (b.map cRls),.fn F [] []] (.b q):=by
  refine PDoes.of_bodyN Tryz.func246 rfl (by kernel_rfl) rfl rfl ?_
  have la:(a.map cRls).length=a.length:=List.length_map ..
  have lb:(b.map cRls).length=b.length:=List.length_map ..
  refine jA ?_
  refine AW.cond rfl (fun h=>?_) (fun h=>?_)
  · have h:¬a.length=b.length:=by simp at h;omega
    rw [eq_len h] at hq
    refine jA ?_
    refine AW.ret (retQA ty_ok rfl rfl rfl ?_)
    exact congrArg AV.b hq
  have h:a.length=b.length:=by simp at h;omega
  refine jA ?_
  refine AW.lens 0 rfl fun hm=>?_
  rw [List.length_map] at hm
  refine AW.loopL (ι:=Nat) (fun k=>[(1,.sl (b.map cRls)),(2,.fn F [] []),(15,.sl (a.map cRls)),(16,.i .i64 (a.map cRls).length),(17,.i .i64 (k:Nat))]) (fun _=>[]) (fun k=>k<=a.length/\decide (a.drop k=b.drop k)=q) (fun k=>a.length - k) 0 ⟨Nat.zero_le _,hq⟩ ⟨rI rfl rfl,Rn.fnF rfl rfl,rI rfl rfl,rI rfl rfl,rI rfl rfl,trivial⟩ trivial fun k hk=>?_
  clear hq
  obtain ⟨hk,hf⟩:=hk
  refine jA ?_
  refine AW.cond rfl (fun h1=>?_) (fun h1=>?_)
  rotate_left
  · have h':¬k<a.length:=by simpa using h1
    obtain rfl:k=a.length:=by omega
    rw [List.drop_length,h,List.drop_length] at hf
    refine jA ?_
    refine AW.exit ?_;refine Eq.mpr (if_pos rfl) ?_;refine jA ?_
    refine AW.ret (retQA ty_ok rfl rfl rfl ?_)
    exact congrArg AV.b hf
  have h':k<a.length:=by simpa using h1
  have h'':k<b.length:=by omega
  rw [List.drop_eq_getElem_cons h',List.drop_eq_getElem_cons h'',eq_step] at hf
  have hax:(a.map cRls)[k]?=some (cRls a[k]):=by rw [List.getElem?_map,List.getElem?_eq_getElem h'];rfl
  have hbx:(b.map cRls)[k]?=some (cRls b[k]):=by rw [List.getElem?_map,List.getElem?_eq_getElem h''];rfl
  generalize a[k]=x at hf hax
  generalize b[k]=y at hf hbx
  refine jA ?_
  refine RG.opS rfl (op_index rfl (tab_ok ty_ok rfl) rfl (tab_ok ty_ok rfl) rfl rfl hax rfl) rfl ?_
  refine wH rfl ?_;refine jA ?_
  refine RG.opS rfl (op_index rfl (tab_ok ty_ok rfl) rfl (tab_ok ty_ok rfl) rfl rfl hbx rfl) rfl ?_
  refine wH rfl ?_;refine jA ?_
  have hx:=H x y
  cases e:decide (x=y)
  · rw [e] at hf hx
    refine RG.callS rfl rfl rfl rfl rfl hx rfl rfl ?_;refine wH rfl ?_;refine jA ?_
    refine AW.condT rfl ?_;refine jA ?_
    refine AW.ret (retQA ty_ok rfl rfl rfl ?_)
    exact congrArg AV.b hf
  · rw [e,Bool.true_and] at hf
    rw [e] at hx
    refine RG.callS rfl rfl rfl rfl rfl hx rfl rfl ?_;refine wH rfl ?_;refine jA ?_
    refine AW.condF rfl ?_;refine jA ?_
    exact ⟨k+1,⟨⟨h',hf⟩,by omega⟩,⟨rI rfl rfl,Rn.fnF rfl rfl,rI rfl rfl,rI rfl rfl,rI (i64_next h' hm) rfl,trivial⟩,trivial⟩
theorem d_alike_Pt (a b:List (List Pt)) (q:Bool) (hq:decide (a=b)=q):PDoes Tryz.prog 189 [.sl (a.map cPts),.sl (b.map cPts)] (.b q):=by
 refine PDoes.of_bodyN Tryz.func189 rfl (by kernel_rfl) rfl rfl ?_
 refine jA ?_
 refine RG.callS rfl rfl rfl rfl rfl (d_EqualFunc_Pts 245 (fun x y=>d_Equal_Pt x y _ rfl) a b q hq) rfl rfl ?_;refine wH rfl ?_;refine jA ?_
 refine AW.ret (retQA ty_ok rfl rfl rfl ?_)
 rfl
theorem d_alike_Rl (a b:List (List Rl)) (q:Bool) (hq:decide (a=b)=q):PDoes Tryz.prog 193 [.sl (a.map cRls),.sl (b.map cRls)] (.b q):=by
 refine PDoes.of_bodyN Tryz.func193 rfl (by kernel_rfl) rfl rfl ?_
 refine jA ?_
 refine RG.callS rfl rfl rfl rfl rfl (d_EqualFunc_Rls 247 (fun x y=>d_Equal_Rl x y _ rfl) a b q hq) rfl rfl ?_;refine wH rfl ?_;refine jA ?_
 refine AW.ret (retQA ty_ok rfl rfl rfl ?_)
 rfl
theorem d_EqualFunc_Tab (F:Nat) (H:∀x y:List (List Rl),PDoes Tryz.prog F [.sl (x.map cRls),.sl (y.map cRls)] (.b (decide (x=y)))) (a b:List (List (List Rl))) (q:Bool) (hq:decide (a=b)=q):PDoes Tryz.prog 192 [.sl (a.map cTab),.sl (b.map cTab),.fn F [] []] (.b q):=by
  refine PDoes.of_bodyN Tryz.func192 rfl (by kernel_rfl) rfl rfl ?_
  have la:(a.map cTab).length=a.length:=List.length_map ..
  have lb:(b.map cTab).length=b.length:=List.length_map ..
  refine jA ?_
  refine AW.cond rfl (fun h=>?_) (fun h=>?_)
  · have h:¬a.length=b.length:=by simp at h;omega
    rw [eq_len h] at hq
    refine jA ?_
    refine AW.ret (retQA ty_ok rfl rfl rfl ?_)
    exact congrArg AV.b hq
  have h:a.length=b.length:=by simp at h;omega
  refine jA ?_
  refine AW.lens 0 rfl fun hm=>?_
  rw [List.length_map] at hm
  refine AW.loopL (ι:=Nat) (fun k=>[(1,.sl (b.map cTab)),(2,.fn F [] []),(15,.sl (a.map cTab)),(16,.i .i64 (a.map cTab).length),(17,.i .i64 (k:Nat))]) (fun _=>[]) (fun k=>k<=a.length/\decide (a.drop k=b.drop k)=q) (fun k=>a.length - k) 0 ⟨Nat.zero_le _,hq⟩ ⟨rI rfl rfl,Rn.fnF rfl rfl,rI rfl rfl,rI rfl rfl,rI rfl rfl,trivial⟩ trivial fun k hk=>?_
  clear hq
  obtain ⟨hk,hf⟩:=hk
  refine jA ?_
  refine AW.cond rfl (fun h1=>?_) (fun h1=>?_)
  rotate_left
  · have h':¬k<a.length:=by simpa using h1
    obtain rfl:k=a.length:=by omega
    rw [List.drop_length,h,List.drop_length] at hf
    refine jA ?_
    refine AW.exit ?_;refine Eq.mpr (if_pos rfl) ?_;refine jA ?_
    refine AW.ret (retQA ty_ok rfl rfl rfl ?_)
    exact congrArg AV.b hf
  have h':k<a.length:=by simpa using h1
  have h'':k<b.length:=by omega
  rw [List.drop_eq_getElem_cons h',List.drop_eq_getElem_cons h'',eq_step] at hf
  have hax:(a.map cTab)[k]?=some (cTab a[k]):=by rw [List.getElem?_map,List.getElem?_eq_getElem h'];rfl
  have hbx:(b.map cTab)[k]?=some (cTab b[k]):=by rw [List.getElem?_map,List.getElem?_eq_getElem h''];rfl
  generalize a[k]=x at hf hax
  generalize b[k]=y at hf hbx
  refine jA ?_
  refine RG.opS rfl (op_index rfl (tab_ok ty_ok rfl) rfl (tab_ok ty_ok rfl) rfl rfl hax rfl) rfl ?_
  refine wH rfl ?_;refine jA ?_
  refine RG.opS rfl (op_index rfl (tab_ok ty_ok rfl) rfl (tab_ok ty_ok rfl) rfl rfl hbx rfl) rfl ?_
  refine wH rfl ?_;refine jA ?_
  have hx:=H x y
  cases e:decide (x=y)
  · rw [e] at hf hx
    refine RG.callS rfl rfl rfl rfl rfl hx rfl rfl ?_;refine wH rfl ?_;refine jA ?_
    refine AW.condT rfl ?_;refine jA ?_
    refine AW.ret (retQA ty_ok rfl rfl rfl ?_)
    exact congrArg AV.b hf
  · rw [e,Bool.true_and] at hf
    rw [e] at hx
    refine RG.callS rfl rfl rfl rfl rfl hx rfl rfl ?_;refine wH rfl ?_;refine jA ?_
    refine AW.condF rfl ?_;refine jA ?_
    exact ⟨k+1,⟨⟨h',hf⟩,by omega⟩,⟨rI rfl rfl,Rn.fnF rfl rfl,rI rfl rfl,rI rfl rfl,rI (i64_next h' hm) rfl,trivial⟩,trivial⟩
def topC (t:List (List Pt)):Cf:=⟨⟨t⟩,⟨0,[],[]⟩,[]⟩
theorem d_Same (a b:List (List Pt)) (q:Bool) (hq:decide (a=b)=q):PDoes Tryz.prog 147 [.agg (cCf (topC a)),.agg (cCf (topC b))] (.b q):=by
 refine PDoes.of_bodyN Tryz.func147 rfl (by kernel_rfl) rfl rfl ?_
 refine jB ?_;refine wF ?_;refine wH rfl ?_;refine jB ?_;refine wG ?_;refine wH rfl ?_;refine jB ?_
 refine AW.text ?_
 refine wH rfl ?_
 cases q
 ·refine RG.callS rfl rfl rfl rfl rfl (d_alike_Pt a b _ hq) rfl rfl ?_;refine wH rfl ?_;refine jA ?_
  refine AW.ret (retQA ty_ok rfl rfl rfl ?_)
  rfl
 refine RG.callS rfl rfl rfl rfl rfl (d_alike_Pt a b _ hq) rfl rfl ?_
 refine wH rfl ?_
 refine RG.callS rfl rfl rfl rfl rfl (d_Equal_Pr [] [] true rfl) rfl rfl ?_
 refine wH rfl ?_
 refine RG.callS rfl rfl rfl rfl rfl (d_Equal_Wy [] [] true rfl) rfl rfl ?_
 refine wH rfl ?_
 refine RG.callS rfl rfl rfl rfl rfl (d_EqualFunc_Tab 193 (fun x y=>d_alike_Rl x y _ rfl) [] [] true rfl) rfl rfl ?_;refine wH rfl ?_;refine jA ?_
 refine AW.ret (retQA ty_ok rfl rfl rfl ?_)
 rfl
end Go.Proofs.YtoaibdbehlcnfaaGreat.Sm
end
section
namespace Go.Proofs.YtoaibdbehlcnfaaGreat.Sm
open Go.RowKit
def cBo (c d:Cf) (V:Int):List AV:=[.sl (c.topo.ports.map cPts),.i .i64 c.pol.tenants,.sl (c.pol.peers.map cPr),.sl (c.pol.ways.map cWy),.sl (c.tables.map cTab),.sl (d.topo.ports.map cPts),.i .i64 d.pol.tenants,.sl (d.pol.peers.map cPr),.sl (d.pol.ways.map cWy),.sl (d.tables.map cTab),.i .i64 V]
def endEq (a b:Run):Bool:=decide (a.fin=b.fin) && decide (a.at_=b.at_)
theorem d_dSame (a b:Run):PDoes Tryz.prog 45 [.agg (cRun a),.agg (cRun b)] (.b (endEq a b)):=by
 refine PDoes.of_bodyN Tryz.func45 rfl (by kernel_rfl) rfl rfl ?_
 rw [endEq]
 refine jB ?_;refine wF ?_;refine wH rfl ?_;refine jB ?_
 refine AW.text ?_
 by_cases g:a.fin=b.fin
 ·rw [decide_eq_true g]
  refine RG.runO ty_ok 0 [(9,.b true)] 400 rfl jD ?_
  refine RG.opS rfl (op_eqG rfl ty_ok (by kernel_rfl) (by kernel_rfl) rfl rfl (eq_Sp a.at_ b.at_) rfl) rfl ?_
  refine wH rfl ?_;refine jA ?_
  refine AW.ret (retQA ty_ok rfl rfl rfl ?_)
  rfl
 ·rw [decide_eq_false g]
  refine RG.runO ty_ok 0 [(9,.b false)] 400 rfl jD ?_
  refine jA ?_
  refine AW.ret (retQA ty_ok rfl rfl rfl ?_)
  rfl
theorem d_same28 (a b:Run):PDoes Tryz.prog 50 [.agg (cRun a),.agg (cRun b)] (.b (endEq a b)):=by
 refine PDoes.of_bodyN Tryz.func50 rfl (by kernel_rfl) rfl rfl ?_
 rw [endEq]
 refine jB ?_;refine wF ?_;refine wH rfl ?_;refine jB ?_
 refine AW.text ?_
 by_cases g:a.fin=b.fin
 ·rw [decide_eq_true g]
  refine RG.runO ty_ok 0 [(9,.b true)] 400 rfl jD ?_
  refine RG.opS rfl (op_eqG rfl ty_ok (by kernel_rfl) (by kernel_rfl) rfl rfl (eq_Sp a.at_ b.at_) rfl) rfl ?_
  refine wH rfl ?_;refine jA ?_
  refine AW.ret (retQA ty_ok rfl rfl rfl ?_)
  rfl
 ·rw [decide_eq_false g]
  refine RG.runO ty_ok 0 [(9,.b false)] 400 rfl jD ?_
  refine jA ?_
  refine AW.ret (retQA ty_ok rfl rfl rfl ?_)
  rfl
def rightE (c d:Cf) (V:Int):Int:=if c.sound=0 then (if d.sound=0 then (if V<0\/V>255 then 4 else if c.topo.ports=d.topo.ports then 0 else 1) else d.sound) else c.sound
theorem d_bright (c d:Cf) (V:Int):PDoes Tryz.prog 89 [.agg (cBo c d V)] (.i .i64 (rightE c d V)):=by
  refine PDoes.of_bodyN Tryz.func89 rfl (by kernel_rfl) rfl rfl ?_
  refine jA ?_
  refine AW.loopL (ι:=Nat) (fun k=>[(1,.own 1 0 0),(10,.row 10 0 0 2),(11,.i .i64 ((2:Nat):Int)),(12,.i .i64 (k:Nat))]) (fun _=>[(1,⟨0,some (.box 167 (cBo c d V))⟩),(10,⟨0,some (.row 31 5 ([c,d].map cCf))⟩)]) (fun k=>k<=2/\(0<k->c.sound=0)/\(1<k->d.sound=0)) (fun k=>2 - k) 0 ⟨Nat.zero_le _,fun h=>absurd h (by omega),fun h=>absurd h (by omega)⟩ jW jW fun k hk=>?_
  obtain ⟨hk,h1,h2⟩:=hk
  refine jA ?_
  refine AW.cond rfl (fun h3=>?_) (fun h3=>?_)
  rotate_left
  · have h:¬((k:Nat):Int)<(2:Nat):=of_decide_eq_false h3
    have g1:=h1 (by omega)
    have g2:=h2 (by omega)
    refine jB ?_;refine AW.exit ?_;refine Eq.mpr (if_pos rfl) ?_;refine jB ?_
    refine AW.text ?_
    by_cases g3:V<0
    · have e:rightE c d V=4:=by rw [rightE,if_pos g1,if_pos g2,if_pos (.inl g3)]
      rw [e]
      refine RG.runO ty_ok 0 [(25,.b true)] 400 rfl jD ?_
      refine jB ?_;refine AW.condT rfl ?_;refine jA ?_
      refine AW.ret (retQA ty_ok rfl rfl rfl ?_)
      rfl
    by_cases g4:V>255
    · have e:rightE c d V=4:=by rw [rightE,if_pos g1,if_pos g2,if_pos (.inr g4)]
      rw [e]
      refine RG.runO ty_ok 0 [(25,.b false),(29,.b true)] 400 rfl jD ?_
      refine jB ?_;refine AW.condT rfl ?_;refine jA ?_
      refine AW.ret (retQA ty_ok rfl rfl rfl ?_)
      rfl
    refine RG.runO ty_ok 0 [(25,.b false),(29,.b false)] 400 rfl jD ?_
    refine jB ?_;refine AW.condF rfl ?_;refine jA ?_
    by_cases g5:c.topo.ports=d.topo.ports
    · have e:rightE c d V=0:=by rw [rightE,if_pos g1,if_pos g2,if_neg (by omega),if_pos g5]
      rw [e]
      refine RG.callS rfl rfl rfl rfl rfl (d_Same c.topo.ports d.topo.ports _ (decide_eq_true g5)) rfl rfl ?_;refine wH rfl ?_;refine jA ?_
      refine AW.condF rfl ?_;refine jA ?_
      refine AW.ret (retQA ty_ok rfl rfl rfl ?_)
      rfl
    · have e:rightE c d V=1:=by rw [rightE,if_pos g1,if_pos g2,if_neg (by omega),if_neg g5]
      rw [e]
      refine RG.callS rfl rfl rfl rfl rfl (d_Same c.topo.ports d.topo.ports _ (decide_eq_false g5)) rfl rfl ?_;refine wH rfl ?_;refine jA ?_
      refine AW.condT rfl ?_;refine jA ?_
      refine AW.ret (retQA ty_ok rfl rfl rfl ?_)
      rfl
  have h:k<2:=by have:=of_decide_eq_true h3;omega
  obtain ⟨x,hx⟩:∃x,[c,d][k]?=some x:=⟨_,List.getElem?_eq_getElem (by simpa using h)⟩
  refine jB ?_
  refine AW.text ?_
  refine RG.opS rfl (op_indexR0 k cCf [c,d] (by omega) rfl (tab_ok ty_ok rfl) rfl (tab_ok ty_ok rfl) rfl rfl rfl) rfl ?_
  refine RG.opS rfl (op_loadRow k cCf [c,d] x hx rfl (tab_ok ty_ok rfl) rfl rfl rfl) rfl ?_
  refine wH rfl ?_;refine jA ?_
  refine RG.callS rfl rfl rfl rfl rfl (d_CSound x) rfl rfl ?_;refine wH rfl ?_;refine jA ?_
  refine AW.cond rfl (fun h4=>?_) (fun h4=>?_)
  · have h4:¬x.sound=0:=by simpa using h4
    refine jA ?_
    refine AW.ret (retQA ty_ok rfl rfl rfl ?_)
    match k with
    | 0 =>
      obtain rfl:c=x:=by simpa using hx
      exact congrArg (AV.i .i64) (by rw [rightE,if_neg h4])
    | 1 =>
      obtain rfl:d=x:=by simpa using hx
      exact congrArg (AV.i .i64) (by rw [rightE,if_pos (h1 (by omega)),if_neg h4])
    | k+2=>omega
  · have h4:x.sound=0:=by simpa using h4
    refine jA ?_
    refine ⟨k+1,⟨⟨by omega,fun _=>?_,fun hk1=>?_⟩,by omega⟩,jV,jW⟩
    · match k with
      | 0 =>
        obtain rfl:c=x:=by simpa using hx
        exact h4
      | k+1=>exact h1 (by omega)
    · match k with
      | 0=>omega
      | 1 =>
        obtain rfl:d=x:=by simpa using hx
        exact h4
      | k+2=>omega
def bothAt (c d:Cf) (V:Int) (l1 l2:List Cb):List Atom × Int:=bif decide ((askedOf c V).length>500) then ([],10) else bif decide ((askedOf d V).length>500) then ([],10) else atomsOf (addAll (addAll [] l1) l2)
def allAt (l1 l2:List Cb):Nat->List Cb
 | 0=>[]
 | 1=>addAll [] l1
 | _=>addAll (addAll [] l1) l2
theorem d_batoms (c d:Cf) (V:Int) (l1 l2:List Cb) (H1:PDoes Tryz.prog 52 [.agg (cCf c),.i .i64 V] (ofR (askedOf c V) l1)) (H2:PDoes Tryz.prog 52 [.agg (cCf d),.i .i64 V] (ofR (askedOf d V) l2)) (g1:l1.length=(askedOf c V).length) (g2:l2.length=(askedOf d V).length):PDoes Tryz.prog 90 [.agg (cBo c d V)] (atsR (bothAt c d V l1 l2)):=by
  refine PDoes.of_bodyN Tryz.func90 rfl (by kernel_rfl) rfl rfl ?_
  refine jB ?_
  refine AW.text ?_
  refine wH rfl ?_
  refine jB ?_
  refine AW.text ?_
  refine RG.opS rfl (op_nilRow 4 36 4 rfl) rfl ?_
  refine wH rfl ?_;refine jA ?_
  refine AW.loopL (ι:=Nat) (fun k=>[(1,.own 1 0 0),(4,.row 4 0 0 ((allAt l1 l2 k).map cCb).length),(15,.row 15 0 0 2),(16,.i .i64 ((2:Nat):Int)),(17,.i .i64 (k:Nat))]) (fun k=>[(1,⟨0,some (.box 167 (cBo c d V))⟩),(4,⟨0,some (.row 36 4 ((allAt l1 l2 k).map cCb))⟩),(15,⟨0,some (.row 31 5 ([c,d].map cCf))⟩)]) (fun k=>k<=2/\(0<k->(askedOf c V).length<=500)/\(1<k->(askedOf d V).length<=500)) (fun k=>2 - k) 0 ⟨Nat.zero_le _,fun h=>absurd h (by omega),fun h=>absurd h (by omega)⟩ jW jW fun k hk=>?_
  obtain ⟨hk,h1,h2⟩:=hk
  refine jA ?_
  refine AW.cond rfl (fun h3=>?_) (fun h3=>?_)
  rotate_left
  · have h:¬((k:Nat):Int)<(2:Nat):=of_decide_eq_false h3
    obtain rfl:k=2:=by omega
    have e:bothAt c d V l1 l2=atomsOf (addAll (addAll [] l1) l2):=by
      have:=h1 (by omega)
      have:=h2 (by omega)
      rw [bothAt,decide_eq_false (by omega),decide_eq_false (by omega)]
      rfl
    rw [e]
    refine jA ?_
    refine AW.exit ?_;refine Eq.mpr (if_pos rfl) ?_;refine jA ?_
    refine RG.callMS rfl rfl rfl rfl (congrArg (fun x=>[x]) (rowAll rfl)) rfl (d_Split (allAt l1 l2 2)) rfl ?_;refine wH rfl ?_;refine jA ?_
    refine AW.ret (retQA ty_ok rfl rfl rfl ?_)
    rfl
  have h:k<2:=by have:=of_decide_eq_true h3;omega
  obtain ⟨x,hx⟩:∃x,[c,d][k]?=some x:=⟨_,List.getElem?_eq_getElem (by simpa using h)⟩
  have hO:∃lx,PDoes Tryz.prog 52 [.agg (cCf x),.i .i64 V] (ofR (askedOf x V) lx)/\lx.length=(askedOf x V).length/\allAt l1 l2 (k+1)=addAll (allAt l1 l2 k) lx/\((askedOf x V).length>500->bothAt c d V l1 l2=([],10))/\((askedOf x V).length<=500->(0<k+1->(askedOf c V).length<=500)/\(1<k+1->(askedOf d V).length<=500))/\(allAt l1 l2 k).length<=500:=by
    match k with
    | 0 =>
      obtain rfl:c=x:=by simpa using hx
      exact ⟨l1,H1,g1,rfl,fun hb=>by rw [bothAt,decide_eq_true hb];rfl,fun hb=>⟨fun _=>hb,fun h=>absurd h (by omega)⟩,Nat.zero_le _⟩
    | 1 =>
      obtain rfl:d=x:=by simpa using hx
      have hb1:=h1 (by omega)
      refine ⟨l2,H2,g2,rfl,fun hb=>by rw [bothAt,decide_eq_false (by omega),decide_eq_true hb];rfl,fun hb=>⟨fun _=>hb1,fun _=>hb⟩,?_⟩
      have:=addAll_len l1 []
      show (addAll [] l1).length<=500
      rw [List.length_nil] at this
      omega
    | k+2=>omega
  obtain ⟨lx,hOf,hlx,hall,hbad,hgood,hlen⟩:=hO
  refine jB ?_
  refine AW.text ?_
  refine RG.opS rfl (op_indexR0 k cCf [c,d] (by omega) rfl (tab_ok ty_ok rfl) rfl (tab_ok ty_ok rfl) rfl rfl rfl) rfl ?_
  refine RG.opS rfl (op_loadRow k cCf [c,d] x hx rfl (tab_ok ty_ok rfl) rfl rfl rfl) rfl ?_
  refine wH rfl ?_;refine jA ?_
  by_cases hb:(askedOf x V).length>500
  · rw [ofR,decide_eq_true hb,cond_true] at hOf
    rw [hbad hb]
    refine RG.callMS rfl rfl rfl rfl rfl rfl hOf rfl ?_;refine wH rfl ?_;refine jA ?_
    refine AW.condT rfl ?_;refine jA ?_
    refine AW.ret (retQA ty_ok rfl rfl rfl ?_)
    rfl
  rw [ofR,decide_eq_false hb,cond_false] at hOf
  have hgood:=hgood (by omega)
  refine RG.callMS rfl rfl rfl rfl rfl rfl hOf rfl ?_;refine wH rfl ?_;refine jA ?_
  refine AW.condF rfl ?_;refine jA ?_
  have hm:lx.length<=9223372036854775807:=by omega
  generalize allAt l1 l2 k=acc at hall hlen
  refine AW.loopL (ι:=Nat × List Cb) (fun i=>[(1,.own 1 0 0),(4,.row 4 0 0 (i.2.map cCb).length),(15,.row 15 0 0 2),(16,.i .i64 ((2:Nat):Int)),(17,.i .i64 (k:Nat)),(31,.sl (lx.map cCb)),(32,.i .i64 (lx.map cCb).length),(33,.i .i64 (i.1:Nat))]) (fun i=>[(1,⟨0,some (.box 167 (cBo c d V))⟩),(4,⟨0,some (.row 36 4 (i.2.map cCb))⟩),(15,⟨0,some (.row 31 5 ([c,d].map cCf))⟩)]) (fun i=>(i.1<=lx.length/\i.2.length<=500+i.1)/\addAll i.2 (lx.drop i.1)=allAt l1 l2 (k+1)) (fun i=>lx.length - i.1) (0,acc) ⟨⟨Nat.zero_le _,hlen⟩,hall.symm⟩ jW jW fun i hi=>?_
  clear hall hlen
  obtain ⟨j,acc⟩:=i
  obtain ⟨⟨hj,hl⟩,hf⟩:=hi
  simp only at hj hl hf
  refine jA ?_
  refine AW.cond rfl (fun h4=>?_) (fun h4=>?_)
  rotate_left
  · have h':¬j<lx.length:=by simpa using h4
    obtain rfl:j=lx.length:=by omega
    rw [List.drop_length,addAll] at hf
    subst hf
    refine jA ?_
    refine AW.exit ?_;refine Eq.mpr (if_pos rfl) ?_;refine jA ?_
    exact ⟨k+1,⟨⟨by omega,hgood.1,hgood.2⟩,by omega⟩,⟨rO rfl rfl rfl,rR rfl rfl rfl,rR rfl rfl rfl,rI rfl rfl,rI (i64_next h (by decide)) rfl,trivial⟩,jW⟩
  have h':j<lx.length:=by simpa using h4
  rw [List.drop_eq_getElem_cons h',addAll] at hf
  refine jB ?_
  refine AW.text ?_
  refine RG.opS rfl (op_index rfl (tab_ok ty_ok rfl) rfl (tab_ok ty_ok rfl) rfl rfl (show (lx.map cCb)[j]?=some (cCb lx[j]) by rw [List.getElem?_map,List.getElem?_eq_getElem (by assumption)];rfl) rfl) rfl ?_
  generalize lx[j]=p at hf
  refine wH rfl ?_;refine jA ?_
  by_cases hq:p∈acc
  · rw [addC_in hq] at hf
    refine RG.callS rfl rfl rfl rfl (congrArg (fun x=>[x,AV.agg (cCb p)]) (rowAll rfl)) (d_Contains_Cb p acc _ (decide_eq_true hq)) rfl rfl ?_;refine wH rfl ?_;refine jA ?_
    refine AW.condF rfl ?_;refine jA ?_
    exact ⟨(j+1,acc),⟨⟨⟨h',by show acc.length<=500+(j+1);omega⟩,hf⟩,by show lx.length - (j+1)<lx.length - j;omega⟩,⟨rO rfl rfl rfl,rR rfl rfl rfl,rR rfl rfl rfl,rI rfl rfl,rI rfl rfl,rI rfl rfl,rI rfl rfl,rI (i64_next h' hm) rfl,trivial⟩,jW⟩
  · rw [addC_out hq] at hf
    refine RG.callS rfl rfl rfl rfl (congrArg (fun x=>[x,AV.agg (cCb p)]) (rowAll rfl)) (d_Contains_Cb p acc _ (decide_eq_false hq)) rfl rfl ?_;refine wH rfl ?_;refine jA ?_
    refine AW.condT rfl ?_;refine jB ?_
    refine AW.text ?_
    refine wH rfl ?_
    refine RG.opS rfl (op_app1 cCb acc p (by omega) rfl rfl rfl rfl (tab_ok ty_ok rfl) rfl (tab_ok ty_ok rfl) rfl rfl ⟨_,rfl,rfl⟩ rfl rfl) rfl ?_;refine wH rfl ?_;refine jA ?_
    exact ⟨(j+1,acc++[p]),⟨⟨⟨h',by show (acc++[p]).length<=500+(j+1);rw [List.length_append,List.length_singleton];omega⟩,hf⟩,by show lx.length - (j+1)<lx.length - j;omega⟩,⟨rO rfl rfl rfl,rR rfl rfl rfl,rR rfl rfl rfl,rI rfl rfl,rI rfl rfl,rI rfl rfl,rI rfl rfl,rI (i64_next h' hm) rfl,trivial⟩,jW⟩
end Go.Proofs.YtoaibdbehlcnfaaGreat.Sm
end
section
namespace Go.Proofs.YtoaibdbehlcnfaaGreat.Sm
open Go.RowKit
theorem Rn.fnG {σ σ':Sto} {x:AV} {f:FuncId} {cs:List AV} (e:x = .fn f [.agg cs] []) (h1:cs.all AV.one=true) (h:cs.all AV.pu1=true):Rn σ σ' x (.fn f [.agg cs] []):=by
 subst e
 rw [List.all_eq_true] at h h1
 refine .fn rfl rfl (fun j x x' h2 h3=>?_) (fun j x x' h2=>by simp at h2)
 match j with
 | 0 =>
  obtain rfl:AV.agg cs=x:=by simpa using h2
  obtain rfl:AV.agg cs=x':=by simpa using h3
  exact .agg rfl (fun i y hy=>h1 y (List.mem_of_getElem? hy)) fun i y y' hy hy'=>by
   obtain rfl:y=y':=by rw [hy] at hy';exact Option.some.inj hy'
   exact .pu (h y (List.mem_of_getElem? hy))
 | j+1=>simp at h2
theorem d_bapart (c d:Cf) (hc:c.sound=0) (hd:d.sound=0) (hLc:LooksOk c) (hLd:LooksOk d) (V:Nat) (hV:V<=255) (s:Sp) (h1:s∈edges c.topo.ports) (h2:s∈edges d.topo.ports) (h:Hd):PDoes Tryz.prog 91 [.agg (cBo c d (V:Nat)),.agg (cSp s),.agg (cHd h)] (.b (!endEq (runOf c s h V 10800) (runOf d s h V 10800))):=by
 refine PDoes.of_bodyN Tryz.func91 rfl (by kernel_rfl) rfl rfl ?_
 have e1:=d_Run c hc hLc s h1 h V hV
 have e2:=d_Run d hd hLd s h2 h V hV
 generalize runOf c s h V 10800=x at e1
 generalize runOf d s h V 10800=y at e2
 refine jA ?_
 refine RG.callMS rfl rfl rfl rfl rfl rfl e1 rfl ?_;refine wH rfl ?_;refine jA ?_
 refine RG.callMS rfl rfl rfl rfl rfl rfl e2 rfl ?_;refine wH rfl ?_;refine jA ?_
 refine RG.callS rfl rfl rfl rfl rfl (d_dSame x y) rfl rfl ?_;refine wH rfl ?_;refine jA ?_
 refine AW.ret (retQA ty_ok rfl rfl rfl ?_)
 rfl
def findA (c d:Cf) (V:Nat) (s:Sp):List Atom->Option Hd
 | []=>none
 | a::l=>bif endEq (runOf c s a.head V 10800) (runOf d s a.head V 10800) then findA c d V s l else some a.head
def findE (c d:Cf) (V:Nat) (list:List Atom):List Sp->Sp × Hd × Bool × Int
 | []=>(Sp.zero,Hd.zero,false,0)
 | s::ss=>match findA c d V s list with
  | some h=>(s,h,true,0)
  | none=>findE c d V list ss
def findR (x:Sp × Hd × Bool × Int):AV:=.tup [.agg (cSp x.1),.agg (cHd x.2.1),.b x.2.2.1,.i .i64 x.2.2.2]
def findOf (c d:Cf) (V:Int) (l1 l2:List Cb):Sp × Hd × Bool × Int :=
 bif decide (rightE c d V=0) then (bif decide ((bothAt c d V l1 l2).2=0) then findE c d V.toNat (bothAt c d V l1 l2).1 (edges c.topo.ports) else (Sp.zero,Hd.zero,false,(bothAt c d V l1 l2).2)) else (Sp.zero,Hd.zero,false,rightE c d V)
theorem right_ok {c d:Cf} {V:Int} (h:rightE c d V=0):c.sound=0/\d.sound=0/\(∃v:Nat,V=v/\v<=255)/\c.topo.ports=d.topo.ports:=by
 rw [rightE] at h
 split at h
 ·rename_i h0
  split at h
  ·rename_i h1
   split at h
   ·cases h
   ·rename_i h2
    split at h
    ·rename_i h3
     exact ⟨h0,h1,⟨V.toNat,by omega,by omega⟩,h3⟩
    ·cases h
  ·rename_i h1;exact absurd h h1
 ·rename_i h0;exact absurd h h0
theorem d_Find28 (c d:Cf) (V:Int) (l1 l2:List Cb) (hLc:rightE c d V=0->LooksOk c) (hLd:rightE c d V=0->LooksOk d) (H1:rightE c d V=0->PDoes Tryz.prog 52 [.agg (cCf c),.i .i64 V] (ofR (askedOf c V) l1)) (H2:rightE c d V=0->PDoes Tryz.prog 52 [.agg (cCf d),.i .i64 V] (ofR (askedOf d V) l2)) (g1:l1.length=(askedOf c V).length) (g2:l2.length=(askedOf d V).length):PDoes Tryz.prog 44 [.agg (cCf c),.agg (cCf d),.i .i64 V] (findR (findOf c d V l1 l2)):=by
  refine PDoes.of_bodyN Tryz.func44 rfl (by kernel_rfl) rfl rfl ?_
  have hR:=d_bright c d V
  rw [findOf]
  by_cases e:rightE c d V=0
  rotate_left
  · rw [decide_eq_false e]
    refine jA ?_
    refine RG.callS rfl rfl rfl rfl rfl hR rfl rfl ?_;refine wH rfl ?_;refine jA ?_
    refine AW.cond rfl (fun k=>?_) (fun k=>?_)
    · refine jA ?_
      refine AW.ret (retQA ty_ok rfl rfl rfl ?_)
      rfl
    · exact absurd (by simpa using k) e
  have hA:=d_batoms c d V l1 l2 (H1 e) (H2 e) g1 g2
  replace hLc:=hLc e
  replace hLd:=hLd e
  obtain ⟨hc,hd,⟨v,rfl,hv⟩,hp⟩:=right_ok e
  rw [decide_eq_true e,cond_true,Int.toNat_natCast]
  rw [e] at hR
  have hok:=Cf.ok hc
  have hE:=edges_len hok.topo
  have hme:(edges c.topo.ports).length<=9223372036854775807:=by omega
  generalize bothAt c d v l1 l2=B at hA
  obtain ⟨list,er⟩:=B
  refine jA ?_
  refine RG.callS rfl rfl rfl rfl rfl hR rfl rfl ?_;refine wH rfl ?_;refine jA ?_
  refine AW.condF rfl ?_;refine jA ?_
  refine RG.callMS rfl rfl rfl rfl rfl rfl hA rfl ?_;refine wH rfl ?_;refine jA ?_
  refine AW.cond rfl (fun k=>?_) (fun k=>?_)
  · have k:¬er=0:=by simpa using k
    rw [decide_eq_false k]
    refine jA ?_
    refine AW.ret (retQA ty_ok rfl rfl rfl ?_)
    rfl
  have k:er=0:=by simpa using k
  subst k
  rw [decide_eq_true (rfl:(list,(0:Int)).2=0),cond_true]
  refine jA ?_
  refine RG.callMS rfl rfl rfl rfl rfl rfl (d_Edges c.topo.ports hok.topo) rfl ?_;refine wH rfl ?_;refine jA ?_
  refine AW.lens 12 rfl fun hml=>?_
  rw [List.length_map] at hml
  simp only at hml
  generalize hG:findE c d v (list,(0:Int)).1 (edges c.topo.ports)=G
  simp only at hG
  refine AW.loopL (ι:=Nat) (fun k=>[(6,.own 6 0 0),(7,.own 7 0 0),(12,.sl (list.map cAtom)),(14,.fn 91 [.agg (cBo c d (v:Nat))] []),(44,.sl ((edges c.topo.ports).map cSp)),(45,.i .i64 ((edges c.topo.ports).map cSp).length),(46,.i .i64 (k:Nat))]) (fun _=>[(6,⟨0,some (.box 42 (cSp Sp.zero))⟩),(7,⟨0,some (.box 34 (cHd Hd.zero))⟩)]) (fun k=>k<=(edges c.topo.ports).length/\findE c d v list ((edges c.topo.ports).drop k)=G) (fun k=>(edges c.topo.ports).length - k) 0 ⟨Nat.zero_le _,hG⟩ ⟨rO rfl rfl rfl,rO rfl rfl rfl,rI rfl rfl,Rn.fnG rfl rfl rfl,rI rfl rfl,rI rfl rfl,rI rfl rfl,trivial⟩ jW fun k hk=>?_
  clear hG
  obtain ⟨hk,hf⟩:=hk
  refine jA ?_
  refine AW.cond rfl (fun h2=>?_) (fun h2=>?_)
  rotate_left
  · have h:¬k<(edges c.topo.ports).length:=by simpa using h2
    obtain rfl:k=(edges c.topo.ports).length:=by omega
    rw [List.drop_length,findE] at hf
    refine jA ?_
    refine AW.exit ?_;refine Eq.mpr (if_pos rfl) ?_;refine jA ?_
    refine AW.ret (retQA ty_ok rfl rfl rfl ?_)
    rw [<- hf]
    rfl
  have h:k<(edges c.topo.ports).length:=by simpa using h2
  have hs:=List.getElem_mem h
  rw [List.drop_eq_getElem_cons h,findE] at hf
  refine jB ?_
  refine AW.text ?_
  refine RG.opS rfl (op_index rfl (tab_ok ty_ok rfl) rfl (tab_ok ty_ok rfl) rfl rfl (show ((edges c.topo.ports).map cSp)[k]?=some (cSp (edges c.topo.ports)[k]) by rw [List.getElem?_map,List.getElem?_eq_getElem (by assumption)];rfl) rfl) rfl ?_
  generalize (edges c.topo.ports)[k]=s at hf hs
  have hs2:s∈edges d.topo.ports:=by rw [<- hp];exact hs
  refine wH rfl ?_;refine jA ?_
  refine AW.loopL (ι:=Nat) (fun j=>[(6,.own 6 0 0),(7,.own 7 0 0),(12,.sl (list.map cAtom)),(14,.fn 91 [.agg (cBo c d (v:Nat))] []),(44,.sl ((edges c.topo.ports).map cSp)),(45,.i .i64 ((edges c.topo.ports).map cSp).length),(46,.i .i64 (k:Nat)),(16,.own 16 0 0),(50,.sl (list.map cAtom)),(51,.i .i64 (list.map cAtom).length),(52,.i .i64 (j:Nat))]) (fun _=>[(6,⟨0,some (.box 42 (cSp Sp.zero))⟩),(7,⟨0,some (.box 34 (cHd Hd.zero))⟩),(16,⟨0,some (.box 42 (cSp s))⟩)]) (fun j=>j<=list.length/\(match findA c d v s (list.drop j) with | some h=>(s,h,true,0) | none=>findE c d v list ((edges c.topo.ports).drop (k+1)))=G) (fun j=>list.length - j) 0 ⟨Nat.zero_le _,hf⟩ ⟨rO rfl rfl rfl,rO rfl rfl rfl,rI rfl rfl,Rn.fnG rfl rfl rfl,rI rfl rfl,rI rfl rfl,rI rfl rfl,rO rfl rfl rfl,rI rfl rfl,rI rfl rfl,rI rfl rfl,trivial⟩ jW fun j hj=>?_
  clear hf
  obtain ⟨hj,hf⟩:=hj
  refine jA ?_
  refine AW.cond rfl (fun h3=>?_) (fun h3=>?_)
  rotate_left
  · have h':¬j<list.length:=by simpa using h3
    obtain rfl:j=list.length:=by omega
    rw [List.drop_length,findA] at hf
    refine jA ?_
    refine AW.exit ?_;refine Eq.mpr (if_pos rfl) ?_;refine jA ?_
    exact ⟨k+1,⟨⟨h,hf⟩,by omega⟩,⟨rO rfl rfl rfl,rO rfl rfl rfl,rI rfl rfl,Rn.fnG rfl rfl rfl,rI rfl rfl,rI rfl rfl,rI (i64_next h hme) rfl,trivial⟩,jW⟩
  have h':j<list.length:=by simpa using h3
  rw [List.drop_eq_getElem_cons h',findA] at hf
  refine jB ?_
  refine AW.text ?_
  refine RG.opS rfl (op_index rfl (tab_ok ty_ok rfl) rfl (tab_ok ty_ok rfl) rfl rfl (show (list.map cAtom)[j]?=some (cAtom list[j]) by rw [List.getElem?_map,List.getElem?_eq_getElem (by assumption)];rfl) rfl) rfl ?_
  generalize list[j]=a at hf
  have hQ:=d_bapart c d hc hd hLc hLd v hv s hs hs2 a.head
  refine wH rfl ?_;refine jA ?_
  cases hq:endEq (runOf c s a.head v 10800) (runOf d s a.head v 10800)
  · rw [hq,cond_false] at hf
    rw [hq] at hQ
    refine RG.callS rfl rfl rfl rfl rfl hQ rfl rfl ?_;refine wH rfl ?_;refine jA ?_
    refine AW.condT rfl ?_;refine jA ?_
    refine AW.ret (retQA ty_ok rfl rfl rfl ?_)
    rw [<- hf]
    rfl
  · rw [hq,cond_true] at hf
    rw [hq] at hQ
    refine RG.callS rfl rfl rfl rfl rfl hQ rfl rfl ?_;refine wH rfl ?_;refine jA ?_
    refine AW.condF rfl ?_;refine jA ?_
    exact ⟨j+1,⟨⟨h',hf⟩,by omega⟩,⟨rO rfl rfl rfl,rO rfl rfl rfl,rI rfl rfl,Rn.fnG rfl rfl rfl,rI rfl rfl,rI rfl rfl,rI rfl rfl,rO rfl rfl rfl,rI rfl rfl,rI rfl rfl,rI (i64_next h' hml) rfl,trivial⟩,jW⟩
def lineD:Cf:=⟨⟨lnPorts⟩,⟨1,[],[]⟩,[[lnR0],[[⟨1,lnCube,⟨1,0,0,Cb.zero⟩⟩,lnDrop]]]⟩
theorem fallsD:Falls [⟨1,lnCube,⟨1,0,0,Cb.zero⟩⟩,lnDrop]:=by
 intro k x y hx hy
 match k with
 | 0 =>
  obtain rfl:=Option.some.inj hx
  obtain rfl:=Option.some.inj hy
  decide
 | k+1=>simp at hy
theorem lineD_looks:LooksOk lineD:=looks_of (by
 intro tb htb l hl
 simp only [lineD,List.mem_cons,List.not_mem_nil,or_false] at htb
 rcases htb with rfl | rfl
 ·simp only [List.mem_cons,List.not_mem_nil,or_false] at hl
  subst hl
  exact ⟨falls0,by decide⟩
 ·simp only [List.mem_cons,List.not_mem_nil,or_false] at hl
  subst hl
  exact ⟨fallsD,by decide⟩)
theorem d_OfC (c:Cf) (V:Nat) (hV:V<=255) (h0:c.sound=0) (hs:c.tables.all (fun t=>Nat.ble t.flatten.length 1000)=true) (hl:Nat.blt (askedOf c (V:Nat)).length 20=true):PDoes Tryz.prog 52 [.agg (cCf c),.i .i64 (V:Nat)] (ofR (askedOf c (V:Nat)) (insS (askedOf c (V:Nat)))) :=
 d_Of c h0 (small_of hs) V hV _ (insS_perm _) fun _=>sort_few _ (Nat.le_of_ble_eq_true hl)
theorem d_awake28:PDoes Tryz.prog 14 [] (.b true):=by
 refine PDoes.of_bodyN Tryz.func14 rfl (by kernel_rfl) rfl rfl ?_
 have oC:=d_OfC lineC 0 (by decide) (by kernel_rfl) (by kernel_rfl) (by kernel_rfl)
 have oD:=d_OfC lineD 0 (by decide) (by kernel_rfl) (by kernel_rfl) (by kernel_rfl)
 have f1:=d_Find28 lineC lineC ((0:Nat):Int) _ _ (fun _=>lineC_looks) (fun _=>lineC_looks) (fun _=>oC) (fun _=>oC) (insS_perm _).length_eq (insS_perm _).length_eq
 have f2:=d_Find28 lineC lineD ((0:Nat):Int) _ _ (fun _=>lineC_looks) (fun _=>lineD_looks) (fun _=>oC) (fun _=>oD) (insS_perm _).length_eq (insS_perm _).length_eq
 have e1:findOf lineC lineC ((0:Nat):Int) (insS (askedOf lineC ((0:Nat):Int))) (insS (askedOf lineC ((0:Nat):Int)))=(Sp.zero,Hd.zero,false,0):=by kernel_rfl
 have e2:findOf lineC lineD ((0:Nat):Int) (insS (askedOf lineC ((0:Nat):Int))) (insS (askedOf lineD ((0:Nat):Int)))=(Sp.zero,(findOf lineC lineD ((0:Nat):Int) (insS (askedOf lineC ((0:Nat):Int))) (insS (askedOf lineD ((0:Nat):Int)))).2.1,true,0):=by kernel_rfl
 have e3:(findOf lineC lineD ((0:Nat):Int) (insS (askedOf lineC ((0:Nat):Int))) (insS (askedOf lineD ((0:Nat):Int)))).2.1.lo &&& UInt64.ofNat 1=UInt64.ofNat 1:=by kernel_rfl
 rw [e1] at f1
 rw [e2] at f2
 generalize (findOf lineC lineD ((0:Nat):Int) (insS (askedOf lineC ((0:Nat):Int))) (insS (askedOf lineD ((0:Nat):Int)))).2.1=h at f2 e3
 clear e1 e2 oC oD
 refine jA ?_
 refine RG.ownN [] [(300,310),(301,311),(302,312),(24,324),(30,330),(12,313)] m_line28 rfl rfl rfl rfl rfl rfl rfl rfl rfl rfl ?_
 refine wH rfl ?_
 refine RG.ownN [] [(300,410),(301,411),(302,412),(24,424),(30,430),(12,413)] m_line28 rfl rfl rfl rfl rfl rfl rfl rfl rfl rfl ?_
 refine wH rfl ?_;refine jA ?_
 refine RG.callS rfl rfl rfl rfl rfl f1 rfl rfl ?_;refine wH rfl ?_;refine jA ?_
 refine RG.opS rfl (op_indexRef 1 rfl (tab_ok ty_ok rfl) rfl (tab_ok ty_ok rfl) rfl rfl rfl rfl (by decide)) rfl ?_
 refine wH rfl ?_
 refine RG.opS rfl (op_indexRef 0 rfl (tab_ok ty_ok rfl) rfl (tab_ok ty_ok rfl) rfl rfl rfl rfl (by decide)) rfl ?_
 refine wH rfl ?_
 refine RG.opS rfl (op_indexR0 0 cRl lnR1 (by decide) rfl (tab_ok ty_ok rfl) rfl (tab_ok ty_ok rfl) rfl rfl rfl) rfl ?_
 refine wH rfl ?_
 refine RG.opS rfl (op_fieldAddr rfl (tab_ok ty_ok rfl) rfl rfl (tab_ok ty_ok rfl) rfl (.el rfl rfl) rfl) rfl ?_
 refine RG.opS rfl (op_storeE (k:=0) (j:=5) (cs:=cRl ⟨1,lnCube,⟨2,1,0,Cb.zero⟩⟩) (ns:=cAc ⟨1,0,0,Cb.zero⟩) rfl (tab_ok ty_ok rfl) rfl rfl rfl rfl rfl rfl (by rfl) (Nat.le_of_ble_eq_true (by rfl))) rfl ?_
 refine wH rfl ?_;refine jA ?_
 refine RG.callS rfl rfl rfl rfl rfl f2 rfl rfl ?_;refine wH rfl ?_;refine jA ?_
 refine RG.opS rfl (op_eqG rfl ty_ok (by kernel_rfl) (by kernel_rfl) rfl rfl (eq_Sp Sp.zero Sp.zero) (decide_eq_true rfl)) rfl ?_
 refine RG.runO ty_ok 0 [(60,.b true)] 400 rfl jD ?_
 refine wH rfl ?_
 refine RG.opS rfl (op_makeSlice 1 (id:=64) rfl (tab_ok ty_ok rfl) rfl (tab_ok ty_ok rfl) (by decide) (by decide) (by decide)) rfl ?_
 refine wH rfl ?_
 refine RG.callS rfl rfl rfl rfl rfl (d_dSame ⟨1,⟨0,0⟩,[]⟩ ⟨1,⟨0,0⟩,[Hop.zero]⟩) rfl rfl ?_;refine wH rfl ?_;refine jA ?_
 refine AW.ret (retQA ty_ok rfl rfl rfl ?_)
 rfl
end Go.Proofs.YtoaibdbehlcnfaaGreat.Sm
end
section
namespace Go.Proofs.YtoaibdbehlcnfaaGreat.Sm
open Go.RowKit
theorem d_rPorts (a b:List (List Pt)) (q:Bool) (hq:decide (a=b)=q):PDoes Tryz.prog 80 [.agg (cTopo ⟨a⟩),.agg (cTopo ⟨b⟩)] (.b q):=by
  refine PDoes.of_bodyN Tryz.func80 rfl (by kernel_rfl) rfl rfl ?_
  have la:(a.map cPts).length=a.length:=List.length_map ..
  have lb:(b.map cPts).length=b.length:=List.length_map ..
  refine jA ?_
  refine AW.lensB 2 rfl 0 rfl fun hm=>?_
  refine AW.cond rfl (fun h=>?_) (fun h=>?_)
  · have h:¬a.length=b.length:=by simp at h;omega
    rw [eq_len h] at hq
    refine jA ?_
    refine AW.ret (retQA ty_ok rfl rfl rfl ?_)
    exact congrArg AV.b hq
  have h:a.length=b.length:=by simp at h;omega
  rw [List.length_map] at hm
  refine jA ?_
  refine AW.loopL (ι:=Nat) (fun i=>[(2,.own 2 0 0),(3,.own 3 0 0),(5,.i .i64 (i:Nat))]) (fun _=>[(2,⟨0,some (.box 24 (cTopo ⟨a⟩))⟩),(3,⟨0,some (.box 24 (cTopo ⟨b⟩))⟩)]) (fun i=>i<=a.length/\decide (a.drop i=b.drop i)=q) (fun i=>a.length - i) 0 ⟨Nat.zero_le _,hq⟩ jW jW fun i hi=>?_
  clear hq
  obtain ⟨hi,hf⟩:=hi
  refine jA ?_
  refine AW.cond rfl (fun h1=>?_) (fun h1=>?_)
  rotate_left
  · have h':¬i<a.length:=by simpa using h1
    obtain rfl:i=a.length:=by omega
    rw [List.drop_length,h,List.drop_length] at hf
    refine jA ?_
    refine AW.exit ?_;refine Eq.mpr (if_pos rfl) ?_;refine jA ?_
    refine AW.ret (retQA ty_ok rfl rfl rfl ?_)
    exact congrArg AV.b hf
  have h':i<a.length:=by simpa using h1
  have h'':i<b.length:=by omega
  rw [List.drop_eq_getElem_cons h',List.drop_eq_getElem_cons h'',eq_step] at hf
  have hax:(a.map cPts)[i]?=some (cPts a[i]):=by rw [List.getElem?_map,List.getElem?_eq_getElem h'];rfl
  have hbx:(b.map cPts)[i]?=some (cPts b[i]):=by rw [List.getElem?_map,List.getElem?_eq_getElem h''];rfl
  generalize a[i]=r at hf hax
  generalize b[i]=r' at hf hbx
  have lr:(r.map cPt).length=r.length:=List.length_map ..
  have lr':(r'.map cPt).length=r'.length:=List.length_map ..
  refine jB ?_
  refine AW.draws mixed_ok ?_
  refine wH rfl ?_
  refine RG.opS rfl (op_index rfl (tab_ok ty_ok rfl) rfl (tab_ok ty_ok rfl) rfl rfl hax rfl) rfl ?_
  refine wH rfl ?_
  refine RG.opS rfl (op_index rfl (tab_ok ty_ok rfl) rfl (tab_ok ty_ok rfl) rfl rfl hbx rfl) rfl ?_
  refine wH rfl ?_;refine jA ?_
  refine AW.lens 25 rfl fun hmr=>?_
  rw [lr] at hmr
  refine AW.cond rfl (fun h2=>?_) (fun h2=>?_)
  · have h2:¬r.length=r'.length:=by simp at h2;omega
    rw [eq_len h2,Bool.false_and] at hf
    refine jA ?_
    refine AW.ret (retQA ty_ok rfl rfl rfl ?_)
    exact congrArg AV.b hf
  have h2:r.length=r'.length:=by simp at h2;omega
  refine jA ?_
  refine AW.loopL (ι:=Nat) (fun k=>[(2,.own 2 0 0),(3,.own 3 0 0),(5,.i .i64 (i:Nat)),(6,.i .i64 (k:Nat))]) (fun _=>[(2,⟨0,some (.box 24 (cTopo ⟨a⟩))⟩),(3,⟨0,some (.box 24 (cTopo ⟨b⟩))⟩)]) (fun k=>k<=r.length/\(decide (r.drop k=r'.drop k) && decide (a.drop (i+1)=b.drop (i+1)))=q) (fun k=>r.length - k) 0 ⟨Nat.zero_le _,hf⟩ jW jW fun k hk=>?_
  clear hf
  obtain ⟨hk,hf⟩:=hk
  refine jB ?_
  refine AW.text ?_
  refine wH rfl ?_
  refine RG.opS rfl (op_index rfl (tab_ok ty_ok rfl) rfl (tab_ok ty_ok rfl) rfl rfl hax rfl) rfl ?_
  refine wH rfl ?_;refine jA ?_
  refine AW.cond rfl (fun h3=>?_) (fun h3=>?_)
  rotate_left
  · have h3:¬k<r.length:=by simpa using h3
    obtain rfl:k=r.length:=by omega
    rw [List.drop_length,h2,List.drop_length,decide_eq_true rfl,Bool.true_and] at hf
    refine jA ?_
    refine AW.exit ?_;refine Eq.mpr (if_pos rfl) ?_;refine jA ?_
    exact ⟨i+1,⟨⟨h',hf⟩,by omega⟩,⟨rO rfl rfl rfl,rO rfl rfl rfl,rI (i64_next h' hm) rfl,trivial⟩,jW⟩
  have h3:k<r.length:=by simpa using h3
  have h4:k<r'.length:=by omega
  rw [List.drop_eq_getElem_cons h3,List.drop_eq_getElem_cons h4,eq_step] at hf
  have hrx:(r.map cPt)[k]?=some (cPt r[k]):=by rw [List.getElem?_map,List.getElem?_eq_getElem h3];rfl
  have hry:(r'.map cPt)[k]?=some (cPt r'[k]):=by rw [List.getElem?_map,List.getElem?_eq_getElem h4];rfl
  generalize r[k]=x at hf hrx
  generalize r'[k]=y at hf hry
  refine jB ?_
  refine AW.draws mixed_ok ?_
  refine wH rfl ?_
  refine RG.opS rfl (op_index rfl (tab_ok ty_ok rfl) rfl (tab_ok ty_ok rfl) rfl rfl hax rfl) rfl ?_
  refine wH rfl ?_
  refine RG.opS rfl (op_index rfl (tab_ok ty_ok rfl) rfl (tab_ok ty_ok rfl) rfl rfl hrx rfl) rfl ?_
  refine wH rfl ?_
  refine RG.opS rfl (op_index rfl (tab_ok ty_ok rfl) rfl (tab_ok ty_ok rfl) rfl rfl hbx rfl) rfl ?_
  refine wH rfl ?_
  refine RG.opS rfl (op_index rfl (tab_ok ty_ok rfl) rfl (tab_ok ty_ok rfl) rfl rfl hry rfl) rfl ?_
  refine wH rfl ?_
  by_cases e:x=y
  · rw [decide_eq_true e,Bool.true_and] at hf
    refine RG.opS rfl (op_neG rfl ty_ok (by kernel_rfl) (by kernel_rfl) rfl rfl (eq_Pt x y) (congrArg Bool.not (decide_eq_true e))) rfl ?_
    refine wH rfl ?_;refine jA ?_;refine AW.condF rfl ?_;refine jA ?_
    exact ⟨k+1,⟨⟨h3,hf⟩,by omega⟩,⟨rO rfl rfl rfl,rO rfl rfl rfl,rI rfl rfl,rI (i64_next h3 hmr) rfl,trivial⟩,jW⟩
  · rw [decide_eq_false e,Bool.false_and,Bool.false_and] at hf
    refine RG.opS rfl (op_neG rfl ty_ok (by kernel_rfl) (by kernel_rfl) rfl rfl (eq_Pt x y) (congrArg Bool.not (decide_eq_false e))) rfl ?_
    refine wH rfl ?_;refine jA ?_;refine AW.condT rfl ?_;refine jA ?_
    refine AW.ret (retQA ty_ok rfl rfl rfl ?_)
    exact congrArg AV.b hf
theorem d_wrong28 (c d:Cf) (V:Int):PDoes Tryz.prog 49 [.agg (cCf c),.agg (cCf d),.i .i64 V] (.i .i64 (rightE c d V)):=by
  refine PDoes.of_bodyN Tryz.func49 rfl (by kernel_rfl) rfl rfl ?_
  have hc:=d_rCSound c
  have hd:=d_rCSound d
  rw [rightE]
  by_cases h0:c.sound=0
  rotate_left
  · rw [if_neg h0]
    refine jA ?_
    refine RG.callS rfl rfl rfl rfl rfl hc rfl rfl ?_
    refine wH rfl ?_
    refine RG.callS rfl rfl rfl rfl rfl hd rfl rfl ?_;refine wH rfl ?_;refine jA ?_
    refine AW.cond rfl (fun k=>?_) (fun k=>?_)
    · refine jA ?_
      refine AW.ret (retQA ty_ok rfl rfl rfl ?_)
      rfl
    · exact absurd (by simpa using k) h0
  rw [if_pos h0]
  rw [h0] at hc
  by_cases h1:d.sound=0
  rotate_left
  · rw [if_neg h1]
    refine jA ?_
    refine RG.callS rfl rfl rfl rfl rfl hc rfl rfl ?_
    refine wH rfl ?_
    refine RG.callS rfl rfl rfl rfl rfl hd rfl rfl ?_;refine wH rfl ?_;refine jA ?_
    refine AW.condF rfl ?_;refine jA ?_
    refine AW.cond rfl (fun k=>?_) (fun k=>?_)
    · refine jA ?_
      refine AW.ret (retQA ty_ok rfl rfl rfl ?_)
      rfl
    · exact absurd (by simpa using k) h1
  rw [if_pos h1]
  rw [h1] at hd
  refine jA ?_
  refine RG.callS rfl rfl rfl rfl rfl hc rfl rfl ?_
  refine wH rfl ?_
  refine RG.callS rfl rfl rfl rfl rfl hd rfl rfl ?_;refine wH rfl ?_;refine jA ?_
  refine AW.condF rfl ?_;refine jA ?_
  refine AW.condF rfl ?_;refine jB ?_
  refine AW.text ?_
  by_cases g1:V<0
  · refine RG.runO ty_ok 0 [(23,.b true)] 400 rfl jD ?_
    rw [if_pos (by omega)]
    refine jB ?_;refine AW.condT rfl ?_;refine jA ?_
    refine AW.ret (retQA ty_ok rfl rfl rfl ?_)
    rfl
  · by_cases g2:V>255
    · refine RG.runO ty_ok 0 [(23,.b false),(26,.b true)] 400 rfl jD ?_
      rw [if_pos (by omega)]
      refine jB ?_;refine AW.condT rfl ?_;refine jA ?_
      refine AW.ret (retQA ty_ok rfl rfl rfl ?_)
      rfl
    · refine RG.runO ty_ok 0 [(23,.b false),(26,.b false)] 400 rfl jD ?_
      rw [if_neg (by omega)]
      refine jB ?_;refine AW.condF rfl ?_;refine jA ?_
      refine RG.callS rfl rfl rfl rfl rfl (d_rPorts c.topo.ports d.topo.ports _ rfl) rfl rfl ?_;refine wH rfl ?_;refine jA ?_
      by_cases e:c.topo.ports=d.topo.ports
      · rw [if_pos e,decide_eq_true e]
        refine AW.condF rfl ?_;refine jA ?_
        refine AW.ret (retQA ty_ok rfl rfl rfl ?_)
        rfl
      · rw [if_neg e,decide_eq_false e]
        refine AW.condT rfl ?_;refine jA ?_
        refine AW.ret (retQA ty_ok rfl rfl rfl ?_)
        rfl
theorem d_OfG (c:Cf) (V:Nat) (hV:V<=255) (h0:c.sound=0) (hL:c.Lens):PDoes Tryz.prog 52 [.agg (cCf c),.i .i64 (V:Nat)] (ofR (askedOf c (V:Nat)) (sortG (askedOf c (V:Nat)))) :=
 d_Of c h0 (Cf.small h0 hL) V hV _ (sortG_perm _) fun h=>sort_any _ (by omega)
def findG (c d:Cf) (V:Int):Sp × Hd × Bool × Int:=findOf c d V (sortG (askedOf c V)) (sortG (askedOf d V))
theorem d_FindG (c d:Cf) (V:Int) (hLc:c.Lens) (hLd:d.Lens):PDoes Tryz.prog 44 [.agg (cCf c),.agg (cCf d),.i .i64 V] (findR (findG c d V)) :=
 d_Find28 c d V _ _ (fun e=>looks_any (right_ok e).1 hLc) (fun e=>looks_any (right_ok e).2.1 hLd)
  (fun e=>by
   obtain ⟨hc,hd,⟨v,rfl,hv⟩,hp⟩:=right_ok e
   exact d_OfG c v hv hc hLc)
  (fun e=>by
   obtain ⟨hc,hd,⟨v,rfl,hv⟩,hp⟩:=right_ok e
   exact d_OfG d v hv hd hLd) (sortG_perm _).length_eq (sortG_perm _).length_eq
end Go.Proofs.YtoaibdbehlcnfaaGreat.Sm
end
section
namespace Go.Proofs.YtoaibdbehlcnfaaGreat.Sm
open Go.RowKit
theorem findA_cases (c d:Cf) (V:Nat) (s:Sp):∀(l:List Atom),(findA c d V s l=none/\∀a∈l,endEq (runOf c s a.head V 10800) (runOf d s a.head V 10800)=true) \/
  ∃a∈l,endEq (runOf c s a.head V 10800) (runOf d s a.head V 10800)=false/\findA c d V s l=some a.head
 | []=>.inl ⟨rfl,fun a ha=>by cases ha⟩
 | a::l=>by
  rw [findA]
  cases h:endEq (runOf c s a.head V 10800) (runOf d s a.head V 10800)
  ·exact .inr ⟨a,List.mem_cons_self,h,rfl⟩
  ·rw [cond_true]
   rcases findA_cases c d V s l with ⟨h1,h2⟩ | ⟨b,hb,h1,h2⟩
   ·refine .inl ⟨h1,fun b hb=>?_⟩
    rcases List.mem_cons.1 hb with rfl | hb
    ·exact h
    ·exact h2 b hb
   ·exact .inr ⟨b,List.mem_cons_of_mem _ hb,h1,h2⟩
theorem findE_cases (c d:Cf) (V:Nat) (l:List Atom):∀(ss:List Sp),(findE c d V l ss=(Sp.zero,Hd.zero,false,0)/\∀s∈ss,∀a∈l,endEq (runOf c s a.head V 10800) (runOf d s a.head V 10800)=true) \/
  ∃s∈ss,∃a∈l,endEq (runOf c s a.head V 10800) (runOf d s a.head V 10800)=false/\findE c d V l ss=(s,a.head,true,0)
 | []=>.inl ⟨rfl,fun s hs=>by cases hs⟩
 | s::ss=>by
  rw [findE]
  rcases findA_cases c d V s l with ⟨h1,h2⟩ | ⟨a,ha,h1,h2⟩
  ·rw [h1]
   rcases findE_cases c d V l ss with ⟨h3,h4⟩ | ⟨s',hs',a,ha,h3,h4⟩
   ·refine .inl ⟨h3,fun s' hs'=>?_⟩
    rcases List.mem_cons.1 hs' with rfl | hs'
    ·exact h2
    ·exact h4 s' hs'
   ·exact .inr ⟨s',List.mem_cons_of_mem _ hs',a,ha,h3,h4⟩
  ·rw [h2]
   exact .inr ⟨s,List.mem_cons_self,a,ha,h1,rfl⟩
theorem findG_bad {c d:Cf} {V:Int} (h:rightE c d V≠0):findG c d V=(Sp.zero,Hd.zero,false,rightE c d V):=by
 rw [findG,findOf,decide_eq_false h];rfl
theorem endEq_alike {a a' b b':Run} (h1:a.Alike a') (h2:b.Alike b'):endEq a b=endEq a' b':=by
 rw [endEq,endEq,h1.fin,h1.at_,h2.fin,h2.at_]
theorem findG_cases (c d:Cf) (v:Nat) (h0:rightE c d v=0):(∃e:Int,(e=10\/e=11\/e=6)/\findG c d v=(Sp.zero,Hd.zero,false,e)) \/
  (findG c d v=(Sp.zero,Hd.zero,false,0)/\∀s∈edges c.topo.ports,∀h,endEq (runOf c s h v 10800) (runOf d s h v 10800)=true) \/
  (∃s h,s∈edges c.topo.ports/\endEq (runOf c s h v 10800) (runOf d s h v 10800)=false/\findG c d v=(s,h,true,0)):=by
 obtain ⟨hsc,hsd,-,hpe⟩:=right_ok h0
 have hc:=Cf.ok hsc
 have hd:=Cf.ok hsd
 obtain ⟨hsndc,haskc⟩:=askedOf_ok hc (v:Int)
 obtain ⟨hsndd,haskd⟩:=askedOf_ok hd (v:Int)
 have hpc:=sortG_perm (askedOf c (v:Int))
 have hpd:=sortG_perm (askedOf d (v:Int))
 rw [findG,findOf,decide_eq_true h0,cond_true,bothAt]
 by_cases h1:(askedOf c (v:Int)).length>500
 ·rw [decide_eq_true h1,cond_true]
  exact .inl ⟨10,.inl rfl,rfl⟩
 by_cases h1':(askedOf d (v:Int)).length>500
 ·rw [decide_eq_true h1',decide_eq_false h1,cond_true,cond_false]
  exact .inl ⟨10,.inl rfl,rfl⟩
 rw [decide_eq_false h1,decide_eq_false h1',cond_false,cond_false]
 have hAc:=haskc (by omega)
 have hAd:=haskd (by omega)
 generalize askedOf c (v:Int)=pc at hsndc hpc h1 hAc
 generalize askedOf d (v:Int)=pd at hsndd hpd h1' hAd
 generalize sortG pc=lc at hpc
 generalize sortG pd=ld at hpd
 have hmem:∀y,y∈addAll (addAll [] lc) ld↔y∈pc\/y∈pd:=by
  intro y
  rw [addAll_mem,addAll_mem,hpc.mem_iff,hpd.mem_iff]
  simp
 generalize addAll (addAll [] lc) ld=ps at hmem
 by_cases h5:ps.length>500
 ·rw [atomsOf,decide_eq_true h5,cond_true]
  exact .inl ⟨6,.inr (.inr rfl),rfl⟩
 obtain ⟨g1,g2⟩:=atomsOf_ok (ps:=ps) (fun x hx=>by
  rcases (hmem x).1 hx with h | h
  ·exact hsndc x h
  ·exact hsndd x h) (by omega)
 by_cases h2:(atomsOf ps).2=0
 rotate_left
 ·rw [decide_eq_false h2,cond_false]
  rcases g1 with g | g | g
  ·exact absurd g h2
  ·rw [g];exact .inl ⟨10,.inl rfl,rfl⟩
  ·rw [g];exact .inl ⟨11,.inr (.inl rfl),rfl⟩
 rw [decide_eq_true h2,cond_true]
 have hP:=g2 h2
 generalize (atomsOf ps).1=list at hP
 rw [Int.toNat_natCast]
 rcases findE_cases c d v list (edges c.topo.ports) with ⟨h3,h4⟩ | ⟨s,hs,a,ha,h3,h4⟩
 ·refine .inr (.inl ⟨h3,fun s hs h=>?_⟩)
  obtain ⟨a,ha,hh⟩:=hP.all h
  have hlike:∀p∈ps,p.has h=p.has a.head:=fun p hp=>hP.like a ha h a.head hh (hP.head a ha) p hp
  rw [endEq_alike (runOf_alike hc hAc hs (fun p hp=>hlike p ((hmem p).2 (.inl hp))) 10800) (runOf_alike hd hAd (hpe ▸ hs) (fun p hp=>hlike p ((hmem p).2 (.inr hp))) 10800)]
  exact h4 s hs a ha
 ·exact .inr (.inr ⟨s,a.head,hs,h3,h4⟩)
theorem DifferFinds_d (c d:Cf) (V:Int) (s:Sp) (h:Hd) (hLc:c.Lens) (hLd:d.Lens):PDoes Tryz.prog 17 [.agg (cCf c),.agg (cCf d),.i .i64 V,.agg (cSp s),.agg (cHd h)] (.b true):=by
  refine PDoes.of_bodyN Tryz.func17 rfl (by kernel_rfl) rfl rfl ?_
  have hF:=d_FindG c d V hLc hLd
  have hW:=d_wrong28 c d V
  by_cases h0:rightE c d V=0
  rotate_left
  · rw [findG_bad h0] at hF;simp only [findR] at hF
    generalize rightE c d V=m at h0 hF hW
    have hm:m=m:=rfl
    refine jA ?_
    refine RG.callS rfl rfl rfl rfl rfl hF rfl rfl ?_;refine wH rfl ?_;refine jA ?_
    refine RG.callS rfl rfl rfl rfl rfl hW rfl rfl ?_;refine wH rfl ?_;refine jA ?_
    refine AW.cond rfl (fun k=>?_) (fun k=>?_)
    · refine jA ?_
      refine RG.callS rfl rfl rfl rfl rfl d_awake28 rfl rfl ?_
      refine RG.runO ty_ok 0 [(35,.b true)] 400 rfl jD ?_
      refine RG.opS rfl (op_eqG rfl ty_ok (by kernel_rfl) (by kernel_rfl) rfl rfl (eq_Sp Sp.zero Sp.zero) (decide_eq_true rfl)) rfl ?_
      refine wH rfl ?_
      refine RG.opS rfl (op_eqG rfl ty_ok (by kernel_rfl) (by kernel_rfl) rfl rfl (eq_Hd Hd.zero Hd.zero) (decide_eq_true rfl)) rfl ?_
      refine wH rfl ?_;refine jA ?_
      refine AW.ret (retQA ty_ok rfl rfl rfl ?_)
      rfl
    · exact absurd (by simpa using k) h0
  obtain ⟨hsc,hsd,⟨v,rfl,hv⟩,hpe⟩:=right_ok h0
  have hc:=Cf.ok hsc
  have hd:=Cf.ok hsd
  rw [h0] at hW
  rcases findG_cases c d v h0 with ⟨e,he,hj⟩ | ⟨hj,hall⟩ | ⟨s',h',hs',hw,hj⟩
  · rw [hj] at hF;simp only [findR] at hF
    rcases he with rfl | rfl | rfl
    · refine jA ?_
      refine RG.callS rfl rfl rfl rfl rfl hF rfl rfl ?_;refine wH rfl ?_;refine jA ?_
      refine RG.callS rfl rfl rfl rfl rfl hW rfl rfl ?_;refine wH rfl ?_;refine jA ?_
      refine AW.condF rfl ?_;refine jA ?_
      refine AW.condT rfl ?_;refine jA ?_
      refine RG.callS rfl rfl rfl rfl rfl d_awake28 rfl rfl ?_;refine wH rfl ?_;refine jA ?_
      refine AW.ret (retQA ty_ok rfl rfl rfl ?_)
      rfl
    · refine jA ?_
      refine RG.callS rfl rfl rfl rfl rfl hF rfl rfl ?_;refine wH rfl ?_;refine jA ?_
      refine RG.callS rfl rfl rfl rfl rfl hW rfl rfl ?_;refine wH rfl ?_;refine jA ?_
      refine AW.condF rfl ?_;refine jA ?_
      refine AW.condT rfl ?_;refine jA ?_
      refine RG.callS rfl rfl rfl rfl rfl d_awake28 rfl rfl ?_;refine wH rfl ?_;refine jA ?_
      refine AW.ret (retQA ty_ok rfl rfl rfl ?_)
      rfl
    · refine jA ?_
      refine RG.callS rfl rfl rfl rfl rfl hF rfl rfl ?_;refine wH rfl ?_;refine jA ?_
      refine RG.callS rfl rfl rfl rfl rfl hW rfl rfl ?_;refine wH rfl ?_;refine jA ?_
      refine AW.condF rfl ?_;refine jA ?_
      refine AW.condT rfl ?_;refine jA ?_
      refine RG.callS rfl rfl rfl rfl rfl d_awake28 rfl rfl ?_;refine wH rfl ?_;refine jA ?_
      refine AW.ret (retQA ty_ok rfl rfl rfl ?_)
      rfl
  · rw [hj] at hF;simp only [findR] at hF
    refine jA ?_
    refine RG.callS rfl rfl rfl rfl rfl hF rfl rfl ?_;refine wH rfl ?_;refine jA ?_
    refine RG.callS rfl rfl rfl rfl rfl hW rfl rfl ?_;refine wH rfl ?_;refine jA ?_
    refine AW.condF rfl ?_;refine jA ?_
    refine AW.condF rfl ?_;refine jA ?_
    refine AW.condF rfl ?_;refine jB ?_
    refine AW.text ?_
    refine wH rfl ?_
    refine RG.opS rfl (op_neG rfl ty_ok (by kernel_rfl) (by kernel_rfl) rfl rfl (eq_Sp Sp.zero Sp.zero) (congrArg Bool.not (decide_eq_true rfl))) rfl ?_
    refine wH rfl ?_
    refine RG.opS rfl (op_neG rfl ty_ok (by kernel_rfl) (by kernel_rfl) rfl rfl (eq_Hd Hd.zero Hd.zero) (congrArg Bool.not (decide_eq_true rfl))) rfl ?_
    refine wH rfl ?_
    refine RG.callS rfl rfl rfl rfl rfl (d_Edge c.topo.ports s) rfl rfl ?_
    by_cases g1:edgeOf c.topo.ports s<0
    · refine RG.runO ty_ok 0 [(106,.b true)] 400 rfl jD ?_
      refine jB ?_;refine AW.condT rfl ?_;refine jA ?_
      refine RG.callS rfl rfl rfl rfl rfl d_awake28 rfl rfl ?_
      refine wH rfl ?_
      refine RG.opS rfl (op_eqG rfl ty_ok (by kernel_rfl) (by kernel_rfl) rfl rfl (eq_Sp Sp.zero Sp.zero) (decide_eq_true rfl)) rfl ?_
      refine wH rfl ?_
      refine RG.opS rfl (op_eqG rfl ty_ok (by kernel_rfl) (by kernel_rfl) rfl rfl (eq_Hd Hd.zero Hd.zero) (decide_eq_true rfl)) rfl ?_
      refine wH rfl ?_;refine jA ?_
      refine AW.ret (retQA ty_ok rfl rfl rfl ?_)
      rfl
    · have hs:s∈edges c.topo.ports:=(edgeOf_iff hc.topo).1 (by omega)
      have hR1:=d_rRun c hc s hs h v 10800 hv (by decide)
      have hR2:=d_rRun d hd s (hpe ▸ hs) h v 10800 hv (by decide)
      have hSm:=d_same28 (runOf c s h v 10800) (runOf d s h v 10800)
      rw [hall s hs h] at hSm
      generalize runOf c s h v 10800=x at hR1 hSm
      generalize runOf d s h v 10800=y at hR2 hSm
      refine RG.runO ty_ok 0 [(106,.b false)] 400 rfl jD ?_
      refine jB ?_;refine AW.condF rfl ?_;refine jA ?_
      refine RG.callS rfl rfl rfl rfl rfl d_awake28 rfl rfl ?_
      refine wH rfl ?_
      refine RG.callMS rfl rfl rfl rfl rfl rfl hR1 rfl ?_
      refine wH rfl ?_
      refine RG.callMS rfl rfl rfl rfl rfl rfl hR2 rfl ?_
      refine wH rfl ?_
      refine RG.callS rfl rfl rfl rfl rfl hSm rfl rfl ?_;refine wH rfl ?_;refine jA ?_
      refine AW.ret (retQA ty_ok rfl rfl rfl ?_)
      rfl
  · rw [hj] at hF;simp only [findR] at hF
    have hE:=d_Edge c.topo.ports s'
    have g1:=(edgeOf_iff hc.topo).2 hs'
    have hR1:=d_rRun c hc s' hs' h' v 10800 hv (by decide)
    have hR2:=d_rRun d hd s' (hpe ▸ hs') h' v 10800 hv (by decide)
    have hSm:=d_same28 (runOf c s' h' v 10800) (runOf d s' h' v 10800)
    rw [hw] at hSm
    generalize runOf c s' h' v 10800=x at hR1 hSm
    generalize runOf d s' h' v 10800=y at hR2 hSm
    generalize edgeOf c.topo.ports s'=ed at hE g1
    refine jA ?_
    refine RG.callS rfl rfl rfl rfl rfl hF rfl rfl ?_;refine wH rfl ?_;refine jA ?_
    refine RG.callS rfl rfl rfl rfl rfl hW rfl rfl ?_;refine wH rfl ?_;refine jA ?_
    refine AW.condF rfl ?_;refine jA ?_
    refine AW.condF rfl ?_;refine jA ?_
    refine AW.condT rfl ?_;refine jA ?_
    refine RG.callS rfl rfl rfl rfl rfl d_awake28 rfl rfl ?_
    refine wH rfl ?_
    refine RG.callS rfl rfl rfl rfl rfl hE rfl rfl ?_
    refine RG.runO ty_ok 0 [(77,.b true)] 400 rfl jD ?_
    refine RG.callMS rfl rfl rfl rfl rfl rfl hR1 rfl ?_
    refine wH rfl ?_
    refine RG.callMS rfl rfl rfl rfl rfl rfl hR2 rfl ?_
    refine wH rfl ?_
    refine RG.callS rfl rfl rfl rfl rfl hSm rfl rfl ?_;refine wH rfl ?_;refine jA ?_
    refine AW.ret (retQA ty_ok rfl rfl rfl ?_)
    rfl
end Go.Proofs.YtoaibdbehlcnfaaGreat.Sm
end
section
namespace Go.Proofs.YtoaibdbehlcnfaaGreat.Sm
open Go.RowKit
def nearL (l:List Rl) (p:Nat) (r:Rl):List Rl:=if p<l.length then l.take p++l.drop (p+1) else l++[r]
def nearC (c:Cf) (a b:Nat) (l:List Rl):Cf:=⟨c.topo,c.pol,c.tables.set a ((c.tables.getD a []).set b l)⟩
theorem cells_fits {c:Cf} (hf:c.Fit):Fits (cellsT c.tables):=fun tb htb=>by
 obtain ⟨t,ht,rfl⟩:=List.mem_map.1 htb
 have h1:=hf.rows t ht
 rw [reach_eq] at h1
 rw [List.length_map,gM_eq]
 omega
theorem u8_wrap (v:UInt8):IntKind.i64.wrap ((v.toNat:Nat):Int)=((v.toNat:Nat):Int):=by
 have:=v.toNat_lt
 rw [IntKind.wrap_i64];omega
theorem nearC_lens {c:Cf} (hL:c.Lens) (hf:c.Fit) {a b:Nat} {l:List Rl} (hl:l.length*96<=reachBytes+96):(nearC c a b l).Lens:=by
 intro t ht x hx
 rw [reach_eq] at hl ⊢
 have hx':x=l\/∃t∈c.tables,x∈t:=by
  rcases List.mem_or_eq_of_mem_set ht with h | rfl
  ·exact .inr ⟨t,h,hx⟩
  ·rcases List.mem_or_eq_of_mem_set hx with h | rfl
   ·rw [List.getD_eq_getElem?_getD] at h
    cases hq:c.tables[a]? with
    | none=>rw [hq] at h;cases h
    | some t=>rw [hq] at h;exact .inr ⟨t,List.mem_of_getElem? hq,h⟩
   ·exact .inl rfl
 rcases hx' with rfl | ⟨t,ht,hx⟩
 ·omega
 ·have:=hf.rules t ht x hx
  rw [reach_eq] at this
  omega
theorem DifferNear_d (c:Cf) (n i k:UInt8) (r:Rl) (s:Sp) (h:Hd) (hL:c.Lens) (hf:c.Fit):PDoes Tryz.prog 3 [.agg (cCf c),.y n,.y i,.y k,.agg (cRl r),.agg (cSp s),.agg (cHd h)] (.b true):=by
  refine PDoes.of_bodyN Tryz.func3 rfl (by kernel_rfl) rfl rfl ?_
  have hS:=d_rCSound c
  by_cases h0:c.sound=0
  rotate_left
  · generalize c.sound=m at h0 hS
    refine jB ?_;refine wF ?_;refine wH rfl ?_;refine jB ?_
    refine AW.text ?_
    refine wH rfl ?_
    refine RG.callS rfl rfl rfl rfl rfl d_awake28 rfl rfl ?_
    refine wH rfl ?_
    refine RG.callS rfl rfl rfl rfl rfl hS rfl rfl ?_
    refine wH rfl ?_;refine jB ?_
    refine AW.cond rfl (fun q=>?_) (fun q=>?_)
    · refine jA ?_
      refine RG.callS rfl rfl rfl rfl rfl d_awake28 rfl rfl ?_;refine wH rfl ?_;refine jA ?_
      refine AW.ret (retQA ty_ok rfl rfl rfl ?_)
      rfl
    · exact absurd (by simpa using q) h0
  rw [h0] at hS
  have hc:=Cf.ok h0
  have hT1:0<c.tables.length:=by
    have:=(topoSound_ok hc.topo).1
    rw [hc.len];omega
  have ha:n.toNat % c.tables.length<c.tables.length:=Nat.mod_lt _ hT1
  generalize haE:n.toNat % c.tables.length=a at ha
  have hta:=List.getElem?_eq_getElem ha
  have ht1:=tabSound_ok (hc.tabs a _ hta)
  have htm:=List.getElem_mem ha
  generalize htb:c.tables[a]=tb at hta ht1 htm
  have hb:i.toNat % tb.length<tb.length:=Nat.mod_lt _ (by omega)
  generalize hbE:i.toNat % tb.length=b at hb
  have hlb:=List.getElem?_eq_getElem hb
  have hlm:=List.getElem_mem hb
  generalize hle:tb[b]=l at hlb hlm
  have hp:k.toNat % (l.length+1)<l.length+1:=Nat.mod_lt _ (by omega)
  generalize hpE:k.toNat % (l.length+1)=p at hp
  have hlr:=hf.rules tb htm l hlm
  have hU:=cells_fits hf
  obtain ⟨ids,hids⟩:=gF_ids (e1:=47) (e2:=48) (e3:=40) (m:=12) hU (xs:=[.sl (c.topo.ports.map cPts),.i .i64 c.pol.tenants,.sl (c.pol.peers.map cPr),.sl (c.pol.ways.map cWy)]) (n:=c.tables.length) rfl
  have hUl:(tE (cellsT c.tables)).length=c.tables.length:=by rw [tE_len,cellsT,List.length_map]
  have hUa:(cellsT c.tables)[a]?=some (tb.map fun l=>l.map cRl):=by rw [cellsT,List.getElem?_map,hta];rfl
  have hUb:(tb.map fun l=>l.map cRl)[b]?=some (l.map cRl):=by rw [List.getElem?_map,hlb];rfl
  have hcp:=d_Copy c hf
  generalize hUe:cellsT c.tables=U at hU hids hUl hUa hcp
  generalize hTe:(tb.map fun l=>l.map cRl)=tbr at hUa hUb
  have hfin:∀l',(((U.map fun tb=>AV.sl ((tb.map AV.sl).map fun x=>[x])).set a (.sl (((tbr.map AV.sl).set b (.sl (l'.map cRl))).map fun y=>[y]))).map fun y=>[y])=(nearC c a b l').tables.map cTab:=fun l'=>by
    have q1:c.tables.getD a []=tb:=by rw [List.getD_eq_getElem?_getD,hta];rfl
    have q2:(U.map fun tb=>AV.sl ((tb.map AV.sl).map fun x=>[x])).map (fun y=>[y])=c.tables.map cTab:=by
      rw [<- hUe,cellsT,List.map_map,List.map_map]
      refine List.map_congr_left fun t _=>?_
      show [AV.sl (((t.map fun l=>l.map cRl).map AV.sl).map fun x=>[x])]=cTab t
      rw [List.map_map,List.map_map];rfl
    have q3:[AV.sl (((tbr.map AV.sl).set b (.sl (l'.map cRl))).map fun y=>[y])]=cTab (tb.set b l'):=by
      rw [cTab,List.map_set,List.map_set,<- hTe,List.map_map,List.map_map];rfl
    rw [List.map_set,q2,q3,nearC,q1,List.map_set]
  have htl:tbr.length=tb.length:=by rw [<- hTe,List.length_map]
  refine jB ?_;refine wF ?_;refine wH rfl ?_;refine jB ?_
  refine AW.text ?_
  refine wH rfl ?_
  refine RG.callS rfl rfl rfl rfl rfl d_awake28 rfl rfl ?_
  refine wH rfl ?_
  refine RG.callS rfl rfl rfl rfl rfl hS rfl rfl ?_
  refine wH rfl ?_;refine jB ?_
  refine AW.condF rfl ?_;refine jB ?_
  refine AW.text ?_
  refine wH rfl ?_
  refine RG.callG rfl rfl rfl rfl rfl hcp hids (fun id h=>by obtain ⟨k,rfl⟩:∃k,id=k+1000:=⟨id - 1000,by omega⟩;rfl) rfl ?_
  refine wH rfl ?_;refine jB ?_
  refine AW.retold (Rt.trans (Rt.grid (T:=[(1,.y n),(2,.y i),(3,.y k),(7,.own 7 0 0),(11,.own 11 0 0),(12,.own 12 0 0),(13,.own 13 0 0),(14,.b false),(15,.own 15 0 0)]) (B:=[(7,⟨0,some (.box 31 (cCf c))⟩),(11,⟨0,some (.box 40 (cRl r))⟩),(12,⟨0,some (.box 42 (cSp s))⟩),(13,⟨0,some (.box 34 (cHd h))⟩),(15,⟨0,some (.box 31 [.sl (c.topo.ports.map cPts),.i .i64 c.pol.tenants,.sl (c.pol.peers.map cPr),.sl (c.pol.ways.map cWy),.row 1000 1 0 (tE U).length])⟩)]) hU (fun k=>rfl) ⟨rI rfl rfl,rI rfl rfl,rI rfl rfl,rO rfl rfl rfl,rO rfl rfl rfl,rO rfl rfl rfl,rO rfl rfl rfl,rI rfl rfl,rO rfl rfl rfl,trivial⟩ ⟨bS rfl rfl rfl,bS rfl rfl rfl,bS rfl rfl rfl,bS rfl rfl rfl,.boxL rfl ⟨rI rfl rfl,rI rfl rfl,rI rfl rfl,rI rfl rfl,.rowNIs (congrArg (AV.row 1000 _ 0) hUl.symm) rfl rfl rfl,trivial⟩ rfl,trivial⟩) fun _ _=>Rt.trans (Rt.focusG (L:=5) rfl hU hUa rfl rfl rfl) fun _ _=>Rt.focusG2 (C:=6) rfl rfl (by decide) hU hUa hUb rfl rfl rfl) ?_
  have hal:a<(tE U).length:=by rw [hUl];exact ha
  have hel:((tE U).set a (.row 5 1 0 tbr.length))[a]?=some (.row 5 1 0 tbr.length):=by rw [List.getElem?_set,if_pos rfl,if_pos hal]
  have hbl:b<tbr.length:=by rw [htl];exact hb
  have helb:((gE a tbr).set b (.row 6 1 0 (l.map cRl).length))[b]?=some (.row 6 1 0 (l.map cRl).length):=by rw [List.getElem?_set,if_pos rfl,if_pos (by rw [gE_len];exact hbl)]
  refine AW.text ?_
  refine wH rfl ?_
  refine RG.opS rfl (op_lenE rfl rfl rfl rfl (tab_ok ty_ok rfl) rfl rfl rfl) rfl ?_
  refine RG.opS rfl (op_remV n.toNat c.tables.length hT1 (u8_wrap n) (congrArg Int.ofNat hUl) rfl rfl rfl) rfl ?_
  rw [haE]
  refine wH rfl ?_;refine jB ?_
  refine AW.text ?_
  refine wH rfl ?_
  refine RG.opS rfl (op_ixE (k:=a) rfl (tab_ok ty_ok rfl) rfl (tab_ok ty_ok rfl) rfl rfl rfl hal rfl) rfl ?_
  refine RG.opS rfl (op_ldE rfl (tab_ok ty_ok rfl) rfl rfl rfl hel) rfl ?_
  refine RG.opS rfl (op_lenE rfl rfl rfl rfl (tab_ok ty_ok rfl) rfl rfl rfl) rfl ?_
  refine RG.opS rfl (op_remV i.toNat tb.length (by omega) (u8_wrap i) (congrArg Int.ofNat htl) rfl rfl rfl) rfl ?_
  rw [hbE]
  refine wH rfl ?_;refine jB ?_
  refine AW.text ?_
  refine wH rfl ?_
  refine RG.opS rfl (op_ixE (k:=a) rfl (tab_ok ty_ok rfl) rfl (tab_ok ty_ok rfl) rfl rfl rfl hal rfl) rfl ?_
  refine RG.opS rfl (op_ldE rfl (tab_ok ty_ok rfl) rfl rfl rfl hel) rfl ?_
  refine wH rfl ?_
  refine RG.opS rfl (op_ixE (k:=b) rfl (tab_ok ty_ok rfl) rfl (tab_ok ty_ok rfl) rfl rfl rfl hbl rfl) rfl ?_
  refine RG.opS rfl (op_ldE rfl (tab_ok ty_ok rfl) rfl rfl rfl helb) rfl ?_
  refine wH rfl ?_;refine jB ?_
  refine AW.text ?_
  refine RG.runG ty_ok 0 5 rfl ?_
  rw [reach_eq] at hlr
  refine RG.opS rfl (op_remV k.toNat (l.length+1) (by omega) (u8_wrap k) (by rw [IntKind.wrap_i64];simp only [List.length_map,Int.ofNat_eq_natCast];omega) rfl rfl rfl) rfl ?_
  rw [hpE]
  refine wH rfl ?_;refine jB ?_
  refine wF ?_;refine wH rfl ?_;refine jB ?_
  refine AW.cond rfl (fun h1=>?_) (fun h1=>?_)
  · have k1 : p < l.length := by
      have:=of_decide_eq_true h1
      rw [List.length_map] at this
      omega
    have e1:((l.map cRl).drop 0).take (p - 0)=(l.take p).map cRl:=by rw [List.drop_zero,Nat.sub_zero,List.map_take]
    have e2:((l.map cRl).drop (p+1)).take ((l.map cRl).length - (p+1))=(l.drop (p+1)).map cRl:=by rw [List.take_of_length_le (by rw [List.length_drop];omega),List.map_drop]
    have e3:(l.take p).map cRl++(l.drop (p+1)).map cRl=(nearL l p r).map cRl:=by rw [nearL,if_pos k1,List.map_append]
    have hl3:(nearL l p r).length*96<=reachBytes+96:=by
      rw [nearL,if_pos k1,List.length_append,List.length_take,List.length_drop,reach_eq];omega
    refine AW.retold (Rt.gridh (T:=[(7,.own 7 0 0),(11,.own 11 0 0),(12,.own 12 0 0),(13,.own 13 0 0),(14,.b false),(15,.own 15 0 0),(16,.i .i64 (a:Nat)),(17,.i .i64 (b:Nat)),(18,.sl (l.map cRl)),(19,.i .i64 (p:Nat))]) (B:=[(7,⟨0,some (.box 31 (cCf c))⟩),(11,⟨0,some (.box 40 (cRl r))⟩),(12,⟨0,some (.box 42 (cSp s))⟩),(13,⟨0,some (.box 34 (cHd h))⟩),(15,⟨0,some (.box 31 [.sl (c.topo.ports.map cPts),.i .i64 c.pol.tenants,.sl (c.pol.peers.map cPr),.sl (c.pol.ways.map cWy),.row 1000 1 0 (tE U).length])⟩)]) (r':=(gE a tbr).set b (.sl (l.map cRl))) [6] rfl rfl hU (fun k=>rfl) rfl (by rw [List.length_set,List.length_set]) (gE_set_one rfl) (gE_rnF hU (fun k=>rfl) (fun k=>lkF_hi _ _ k) hUa (.fz (.row rfl (by rw [List.drop_zero,List.take_length])) fun i hi=>hi))
      ⟨.rn (rO rfl rfl rfl),.rn (rO rfl rfl rfl),.rn (rO rfl rfl rfl),.rn (rO rfl rfl rfl),.is rfl rfl,.rn (rO rfl rfl rfl),.is rfl rfl,.is rfl rfl,.fz (.row rfl (by rw [List.drop_zero,List.take_length])) fun i hi=>hi,.is rfl rfl,trivial⟩ ⟨.old (.old (bS rfl rfl rfl)),.old (.old (bS rfl rfl rfl)),.old (.old (bS rfl rfl rfl)),.old (.old (bS rfl rfl rfl)),.old (.boxL rfl ⟨.is rfl rfl,.is rfl rfl,.is rfl rfl,.is rfl rfl,.rn (.rowNIs rfl rfl rfl rfl),trivial⟩ rfl),trivial⟩ rfl) ?_
    refine AW.draws mixed_ok ?_
    refine wH rfl ?_
    refine RG.opS rfl (op_ixE (k:=a) rfl (tab_ok ty_ok rfl) rfl (tab_ok ty_ok rfl) rfl rfl rfl hal rfl) rfl ?_
    refine RG.opS rfl (op_ldE rfl (tab_ok ty_ok rfl) rfl rfl rfl hel) rfl ?_
    refine wH rfl ?_
    refine RG.opS rfl (op_build0 (id:=69) rfl (tab_ok ty_ok rfl) rfl (tab_ok ty_ok rfl)) rfl ?_
    refine wH rfl ?_
    refine RG.opS rfl (op_slice (l:=0) (h:=p) rfl (tab_ok ty_ok rfl) rfl (tab_ok ty_ok rfl) rfl .no (.at_ rfl) (by omega) (by rw [List.length_map];omega) (fun cs hcs=>by obtain ⟨a,_,rfl⟩:=List.mem_map.1 hcs;rfl)) rfl ?_
    rw [e1]
    refine RG.opS rfl (op_apB cRl (l.take p) (S:=96) (by rw [List.length_take];omega) rfl rfl (fun _=>rfl) rfl rfl rfl rfl (tab_ok ty_ok rfl) rfl (tab_ok ty_ok rfl) rfl ⟨_,rfl,rfl⟩ rfl) rfl ?_
    refine wH rfl ?_
    refine RG.opS rfl (op_slice (l:=p+1) (h:=(l.map cRl).length) rfl (tab_ok ty_ok rfl) rfl (tab_ok ty_ok rfl) rfl (.at_ (i64_next k1 (by omega))) .no (by rw [List.length_map];omega) (Nat.le_refl _) (fun cs hcs=>by obtain ⟨a,_,rfl⟩:=List.mem_map.1 hcs;rfl)) rfl ?_
    rw [e2]
    refine RG.opS rfl (op_appendS rfl rfl rfl rfl (tab_ok ty_ok rfl) rfl (tab_ok ty_ok rfl) rfl (.inl ⟨_,rfl,rfl⟩) rfl (fun cs hcs=>by obtain ⟨a,_,rfl⟩:=List.mem_map.1 hcs;rfl) (show _*96<=_ by rw [List.length_map,List.length_map,List.length_take,List.length_drop];omega) (by rw [List.length_map,List.length_map,List.length_take,List.length_drop];omega) e3 rfl) rfl ?_
    refine RG.opS rfl (op_ixE (k:=b) rfl (tab_ok ty_ok rfl) rfl (tab_ok ty_ok rfl) rfl rfl rfl hbl rfl) rfl ?_
    refine RG.opS rfl (op_stN rfl (tab_ok ty_ok rfl) rfl rfl (by rw [List.length_set,gE_len];exact hbl) rfl rfl rfl rfl) rfl ?_
    refine jB ?_
    refine AW.retold (Rt.gridh (T:=[(7,.own 7 0 0),(12,.own 12 0 0),(13,.own 13 0 0),(14,.b false),(15,.own 15 0 0)]) (B:=[(69,⟨1,some (.row 40 12 ((nearL l p r).map cRl))⟩),(7,⟨0,some (.box 31 (cCf c))⟩),(11,⟨0,some (.box 40 (cRl r))⟩),(12,⟨0,some (.box 42 (cSp s))⟩),(13,⟨0,some (.box 34 (cHd h))⟩),(15,⟨0,some (.box 31 [.sl (c.topo.ports.map cPts),.i .i64 c.pol.tenants,.sl (c.pol.peers.map cPr),.sl (c.pol.ways.map cWy),.row 1000 1 0 (tE U).length])⟩)]) (r':=(gE a tbr).set b (.row 69 1 0 ((nearL l p r).map cRl).length)) [] rfl rfl hU (fun k=>rfl) rfl (by rw [List.length_set,List.length_set,List.length_set]) (gE_set_one rfl) (gE_rnF2 hU (fun k=>rfl) (fun k=>lkF_hi _ _ k) hUa (.rn (rR rfl rfl rfl)))
      ⟨.rn (rO rfl rfl rfl),.rn (rO rfl rfl rfl),.rn (rO rfl rfl rfl),.is rfl rfl,.rn (rO rfl rfl rfl),trivial⟩ ⟨.old (.old (bR rfl rfl)),.old (.old (bS rfl rfl rfl)),.old (.old (bS rfl rfl rfl)),.old (.old (bS rfl rfl rfl)),.old (.old (bS rfl rfl rfl)),.old (.boxL rfl ⟨.is rfl rfl,.is rfl rfl,.is rfl rfl,.is rfl rfl,.rn (.rowNIs rfl rfl rfl rfl),trivial⟩ rfl),trivial⟩ rfl) ?_
    refine AW.retold (s':=stL [(7,.own 7 0 0),(12,.own 12 0 0),(13,.own 13 0 0),(14,.b false),(15,.own 15 0 0)] [(7,⟨0,some (.box 31 (cCf c))⟩),(12,⟨0,some (.box 42 (cSp s))⟩),(13,⟨0,some (.box 34 (cHd h))⟩),(15,⟨0,some (.box 31 (cCf (nearC c a b (nearL l p r))))⟩)]) ?_ ?_
    · have hσ:∀i,lkF ((5,⟨1,some (.nest 48 ((gE a tbr).set b (.row 69 1 0 ((nearL l p r).map cRl).length)))⟩)::[(69,⟨1,some (.row 40 12 ((nearL l p r).map cRl))⟩),(7,⟨0,some (.box 31 (cCf c))⟩),(11,⟨0,some (.box 40 (cRl r))⟩),(12,⟨0,some (.box 42 (cSp s))⟩),(13,⟨0,some (.box 34 (cHd h))⟩),(15,⟨0,some (.box 31 [.sl (c.topo.ports.map cPts),.i .i64 c.pol.tenants,.sl (c.pol.peers.map cPr),.sl (c.pol.ways.map cWy),.row 1000 1 0 (tE U).length])⟩)]) (gF2 47 48 40 12 U a b 5 tbr.length) (i+1000)=gF2 47 48 40 12 U a b 5 tbr.length i:=fun i=>lkF_hi _ _ i
      have hpp:∀i,1000<=i->(lkB [(7,⟨0,some (.box 31 (cCf c))⟩),(12,⟨0,some (.box 42 (cSp s))⟩),(13,⟨0,some (.box 34 (cHd h))⟩),(15,⟨0,some (.box 31 (cCf (nearC c a b (nearL l p r))))⟩)] i).body=none:=fun i hi=>by rw [lkB_big rfl hi]
      obtain ⟨l1,g1,g2⟩:=gE_fz (x:=.row 69 1 0 ((nearL l p r).map cRl).length) (l0:=[69]) (y:=.sl ((nearL l p r).map cRl)) hU hpp hσ hUa (.row rfl (by rw [List.drop_zero,List.take_length])) (fun i hi=>by obtain rfl:=List.mem_singleton.1 hi;rfl)
      have g3:=Fz.nest (id:=5) rfl g1
      rw [List.length_set,gE_len] at g3
      obtain ⟨l2,g4,g5⟩:=gF2_fz hU hpp hσ g3 (fun i hi=>by
        rcases List.mem_cons.1 hi with rfl | hi
        · rfl
        · exact g2 i hi)
      rw [hfin] at g4
      exact Rt.freezeA l2 ⟨.rn (rO rfl rfl rfl),.rn (rO rfl rfl rfl),.rn (rO rfl rfl rfl),.is rfl rfl,.rn (rO rfl rfl rfl),trivial⟩ ⟨.old (.old (bS rfl rfl rfl)),.old (.old (bS rfl rfl rfl)),.old (.old (bS rfl rfl rfl)),.old (.boxL rfl ⟨.is rfl rfl,.is rfl rfl,.is rfl rfl,.is rfl rfl,.fz g4 fun i hi=>hi,trivial⟩ rfl),trivial⟩ g5
    refine jA ?_
    refine RG.callS rfl rfl rfl rfl rfl (DifferFinds_d c _ 0 s h hL (nearC_lens hL hf hl3)) rfl rfl ?_
    refine wH rfl ?_
    refine RG.callS rfl rfl rfl rfl rfl (DifferFinds_d _ c 0 s h (nearC_lens hL hf hl3) hL) rfl rfl ?_;refine wH rfl ?_;refine jA ?_
    refine AW.ret (retQA ty_ok rfl rfl rfl ?_)
    rfl
  · have k1 : ¬ p < l.length := by
      have:=of_decide_eq_false h1
      rw [List.length_map] at this
      omega
    have e3:l.map cRl++[cRl r]=(nearL l p r).map cRl:=by rw [nearL,if_neg k1,List.map_append];rfl
    have hl3:(nearL l p r).length*96<=reachBytes+96:=by
      rw [nearL,if_neg k1,List.length_append,reach_eq];simp only [List.length_singleton];omega
    refine AW.draws mixed_ok ?_
    refine wH rfl ?_
    refine RG.opS rfl (op_ixE (k:=a) rfl (tab_ok ty_ok rfl) rfl (tab_ok ty_ok rfl) rfl rfl rfl hal rfl) rfl ?_
    refine RG.opS rfl (op_ldE rfl (tab_ok ty_ok rfl) rfl rfl rfl hel) rfl ?_
    refine wH rfl ?_
    refine RG.opS rfl (op_ap1B (S:=96) e3 (by rw [List.length_map];omega) rfl rfl rfl rfl rfl rfl rfl (tab_ok ty_ok rfl) rfl (tab_ok ty_ok rfl) rfl ⟨_,rfl,rfl⟩ rfl rfl) rfl ?_
    refine RG.opS rfl (op_ixE (k:=b) rfl (tab_ok ty_ok rfl) rfl (tab_ok ty_ok rfl) rfl rfl rfl hbl rfl) rfl ?_
    refine RG.opS rfl (op_stN rfl (tab_ok ty_ok rfl) rfl rfl (by rw [List.length_set,gE_len];exact hbl) rfl rfl rfl rfl) rfl ?_
    refine jB ?_
    refine AW.retold (Rt.gridh (T:=[(7,.own 7 0 0),(12,.own 12 0 0),(13,.own 13 0 0),(14,.b false),(15,.own 15 0 0)]) (B:=[(6,⟨1,some (.row 40 12 ((nearL l p r).map cRl))⟩),(7,⟨0,some (.box 31 (cCf c))⟩),(11,⟨0,some (.box 40 (cRl r))⟩),(12,⟨0,some (.box 42 (cSp s))⟩),(13,⟨0,some (.box 34 (cHd h))⟩),(15,⟨0,some (.box 31 [.sl (c.topo.ports.map cPts),.i .i64 c.pol.tenants,.sl (c.pol.peers.map cPr),.sl (c.pol.ways.map cWy),.row 1000 1 0 (tE U).length])⟩)]) (r':=(gE a tbr).set b (.row 6 1 0 ((nearL l p r).map cRl).length)) [] rfl rfl hU (fun k=>rfl) rfl (by rw [List.length_set,List.length_set,List.length_set]) (gE_set_one rfl) (gE_rnF2 hU (fun k=>rfl) (fun k=>lkF_hi _ _ k) hUa (.rn (rR rfl rfl rfl)))
      ⟨.rn (rO rfl rfl rfl),.rn (rO rfl rfl rfl),.rn (rO rfl rfl rfl),.is rfl rfl,.rn (rO rfl rfl rfl),trivial⟩ ⟨.old (.old (bR rfl rfl)),.old (.old (bS rfl rfl rfl)),.old (.old (bS rfl rfl rfl)),.old (.old (bS rfl rfl rfl)),.old (.old (bS rfl rfl rfl)),.old (.boxL rfl ⟨.is rfl rfl,.is rfl rfl,.is rfl rfl,.is rfl rfl,.rn (.rowNIs rfl rfl rfl rfl),trivial⟩ rfl),trivial⟩ rfl) ?_
    refine AW.retold (s':=stL [(7,.own 7 0 0),(12,.own 12 0 0),(13,.own 13 0 0),(14,.b false),(15,.own 15 0 0)] [(7,⟨0,some (.box 31 (cCf c))⟩),(12,⟨0,some (.box 42 (cSp s))⟩),(13,⟨0,some (.box 34 (cHd h))⟩),(15,⟨0,some (.box 31 (cCf (nearC c a b (nearL l p r))))⟩)]) ?_ ?_
    · have hσ:∀i,lkF ((5,⟨1,some (.nest 48 ((gE a tbr).set b (.row 6 1 0 ((nearL l p r).map cRl).length)))⟩)::[(6,⟨1,some (.row 40 12 ((nearL l p r).map cRl))⟩),(7,⟨0,some (.box 31 (cCf c))⟩),(11,⟨0,some (.box 40 (cRl r))⟩),(12,⟨0,some (.box 42 (cSp s))⟩),(13,⟨0,some (.box 34 (cHd h))⟩),(15,⟨0,some (.box 31 [.sl (c.topo.ports.map cPts),.i .i64 c.pol.tenants,.sl (c.pol.peers.map cPr),.sl (c.pol.ways.map cWy),.row 1000 1 0 (tE U).length])⟩)]) (gF2 47 48 40 12 U a b 5 tbr.length) (i+1000)=gF2 47 48 40 12 U a b 5 tbr.length i:=fun i=>lkF_hi _ _ i
      have hpp:∀i,1000<=i->(lkB [(7,⟨0,some (.box 31 (cCf c))⟩),(12,⟨0,some (.box 42 (cSp s))⟩),(13,⟨0,some (.box 34 (cHd h))⟩),(15,⟨0,some (.box 31 (cCf (nearC c a b (nearL l p r))))⟩)] i).body=none:=fun i hi=>by rw [lkB_big rfl hi]
      obtain ⟨l1,g1,g2⟩:=gE_fz (x:=.row 6 1 0 ((nearL l p r).map cRl).length) (l0:=[6]) (y:=.sl ((nearL l p r).map cRl)) hU hpp hσ hUa (.row rfl (by rw [List.drop_zero,List.take_length])) (fun i hi=>by obtain rfl:=List.mem_singleton.1 hi;rfl)
      have g3:=Fz.nest (id:=5) rfl g1
      rw [List.length_set,gE_len] at g3
      obtain ⟨l2,g4,g5⟩:=gF2_fz hU hpp hσ g3 (fun i hi=>by
        rcases List.mem_cons.1 hi with rfl | hi
        · rfl
        · exact g2 i hi)
      rw [hfin] at g4
      exact Rt.freezeA l2 ⟨.rn (rO rfl rfl rfl),.rn (rO rfl rfl rfl),.rn (rO rfl rfl rfl),.is rfl rfl,.rn (rO rfl rfl rfl),trivial⟩ ⟨.old (.old (bS rfl rfl rfl)),.old (.old (bS rfl rfl rfl)),.old (.old (bS rfl rfl rfl)),.old (.boxL rfl ⟨.is rfl rfl,.is rfl rfl,.is rfl rfl,.is rfl rfl,.fz g4 fun i hi=>hi,trivial⟩ rfl),trivial⟩ g5
    refine jA ?_
    refine RG.callS rfl rfl rfl rfl rfl (DifferFinds_d c _ 0 s h hL (nearC_lens hL hf hl3)) rfl rfl ?_
    refine wH rfl ?_
    refine RG.callS rfl rfl rfl rfl rfl (DifferFinds_d _ c 0 s h (nearC_lens hL hf hl3) hL) rfl rfl ?_;refine wH rfl ?_;refine jA ?_
    refine AW.ret (retQA ty_ok rfl rfl rfl ?_)
    rfl
end Go.Proofs.YtoaibdbehlcnfaaGreat.Sm
end
section
namespace Go.Proofs.YtoaibdbehlcnfaaGreat.Sm
open Go.RowKit Go.WideShapes Go.ChangeShapes Go.Deep
theorem RdZ.sliceB {α:Type} {P:Program} {t e:TypeId} {R:Rep α} {Q:α->Prop} (hR:RdZ P e R Q) (ht:P.underlying t=some (.slice e)) (hn:P.cellsOf e=R.n) (h0:0<R.n) (hb:0<P.bytesOf e):RdZ P t R.slice (fun l=>l.length*P.bytesOf e<=reachBytes/\∀a∈l,Q a):=by
  intro H enc w base spare held fuel cs x hx hz
  rcases open_slice ht hx with ⟨rfl,_⟩ | ⟨a,len,cap,m,n,D,Pl,rfl,_,hlc,hcm,hm,rfl,hel⟩
  · exact ⟨[],⟨_,rfl,SliceAt.nil _ _ _⟩,by simp,fun a ha=>by cases ha⟩
  · have hlm:len<=m:=by rw [hm];split <;> omega
    simp only [DataW.weights,ht] at hz
    have hlen:len*P.bytesOf e<=reachBytes:=by
      have h1:=hz _ List.mem_cons_self
      rw [List.length_map,List.length_range] at h1
      have h2:len*P.bytesOf e<=(len+(List.map (fun j=>D (len+j)) (List.range (m - len))).length)*P.bytesOf e:=Nat.mul_le_mul_right _ (Nat.le_add_right _ _)
      omega
    have hzi:∀i,i<len->∀k∈(D i).weights P e,k<=reachBytes:=fun i hi k hk=>by
      refine hz k (List.mem_cons_of_mem _ (List.mem_append_left _ ?_))
      exact weights_all (List.mem_map_of_mem (List.mem_range.2 hi)) k hk
    by_cases hp:0<len
    · have hspot : a = ⟨a.block, a.off, none⟩ /\ a.block < w.heap.size := by
        obtain ⟨cs',hc,_⟩:=hel 0 (by omega)
        obtain ⟨_,hl,hat⟩:=World.cells?_some hc
        have h1:=hat 0 (by rw [hn];exact h0)
        have e:(a.add (0*P.cellsOf e)).add 0=a:=by simp [Addr.add]
        rw [e,List.getElem?_eq_getElem (by rw [hl,hn];exact h0)] at h1
        refine ⟨?_,World.block_lt_of_cell? w a h1⟩
        unfold World.cell? at h1
        split at h1
        · split at h1
          · cases h1
          · rename_i hs
            obtain ⟨ab,ao,asp⟩:=a
            cases asp with
            | none=>rfl
            | some k=>simp at hs
        · cases h1
      obtain ⟨xs,cells,h1,h2,h3⟩:=all2_collect (r:=fun a c=>R.rel w (fun b=>b<w.heap.size) a c/\Q a) (n:=R.n) (fun _ _ h=>R.len h.1) w a.block a.off len fun i hi=>by
        obtain ⟨cs',hc,ht'⟩:=hel i (by omega)
        obtain ⟨y,hy,hq⟩:=hR H enc w base spare held n cs' _ ht' (hzi i hi)
        obtain ⟨_,hl,hat⟩:=World.cells?_some hc
        refine ⟨y,cs',⟨hy,hq⟩,fun j u hu=>?_⟩
        have hj:j<P.cellsOf e:=by have:=(List.getElem?_eq_some_iff.1 hu).1;omega
        have:=hat j hj
        rw [hu,hn,hspot.1] at this
        rw [show ((⟨a.block,a.off,none⟩:Addr).add (i*R.n)).add j=⟨a.block,a.off+(i*R.n+j),none⟩ by
          unfold Addr.add
          by_cases h1:i*R.n=0 <;> by_cases h2:j=0 <;> simp [h1,h2,Nat.add_assoc]] at this
        exact this
      obtain ⟨g1,g2⟩:=all2_and h2
      exact ⟨xs,⟨_,rfl,some a,cap,by rw [h1],by omega,hcm,fun _=>⟨a.block,a.off,by rw [<- hspot.1],hspot.2,hspot.2,cells,g1,h3⟩⟩,by rw [h1];exact hlen,g2⟩
    · obtain rfl:len=0:=by omega
      exact ⟨[],⟨_,rfl,some a,cap,rfl,Nat.zero_le _,hcm,fun h=>absurd h (Nat.lt_irrefl _)⟩,by simp,fun a ha=>by cases ha⟩
section
variable {P : Program} {t : TypeId}
theorem RdA.sliceB {α:Type} {e:TypeId} {n:Nat} {enc:α->List AV} {Q:α->Prop} (h:RdA P e n enc Q) (ht:P.underlying t=some (.slice e)) (hn:P.cellsOf e=n) (h0:0<n) (hb:0<P.bytesOf e) {S:Nat} (hS:P.bytesOf e=S):RdA P t 1 (fun l:List α=>[.sl (l.map enc)]) (fun l=>l.length*S<=reachBytes/\∀a∈l,Q a):=by
 subst hS
 have E:=(avR_enc h.len h.one).slice h0
 refine ⟨E.len,E.one,fun H e w base spare held fuel cs x hx hz=>?_⟩
 have hR:RdZ P _ (avR n enc h.len h.one) Q:=fun H e w base spare held fuel cs x hx hz=>h.read H e w base spare held fuel cs x hx hz
 obtain ⟨a,ha,hq⟩:=hR.sliceB ht hn h0 hb H e w base spare held fuel cs x hx hz
 exact ⟨a,⟨by rw [(avR n enc h.len h.one).slice.len ha,E.len],fun j y hj=>E.one a y (List.mem_of_getElem? hj),fun j y v hj hv=>E.to ha j y v hj hv⟩,hq⟩
end
theorem rf_Pts:RdA Tryz.prog 115 1 (fun l:List (Pt)=>[.sl (l.map cPt)]) (fun l=>l.length*40<=reachBytes/\∀a∈l,True):=(RdA.of ra_Pt).sliceB Tryz.underlying115 (by kernel_rfl) (by decide) (Nat.le_of_ble_eq_true (by kernel_rfl)) (by kernel_rfl)
theorem rf_Ptss:RdA Tryz.prog 22 1 (fun l:List (List Pt)=>[.sl (l.map cPts)]) (fun l=>l.length*24<=reachBytes/\∀a∈l,a.length*40<=reachBytes/\∀b∈a,True):=rf_Pts.sliceB Tryz.underlying22 (by kernel_rfl) (by decide) (Nat.le_of_ble_eq_true (by kernel_rfl)) (by kernel_rfl)
theorem rf_Prs:RdA Tryz.prog 25 1 (fun l:List (Int × Int)=>[.sl (l.map cPr)]) (fun l=>l.length*16<=reachBytes/\∀a∈l,True):=(RdA.of ra_Pr).sliceB Tryz.underlying25 (by kernel_rfl) (by decide) (Nat.le_of_ble_eq_true (by kernel_rfl)) (by kernel_rfl)
theorem rf_Wys:RdA Tryz.prog 26 1 (fun l:List (Wy)=>[.sl (l.map cWy)]) (fun l=>l.length*24<=reachBytes/\∀a∈l,True):=(RdA.of ra_Wy).sliceB Tryz.underlying26 (by kernel_rfl) (by decide) (Nat.le_of_ble_eq_true (by kernel_rfl)) (by kernel_rfl)
theorem rf_Rls:RdA Tryz.prog 48 1 (fun l:List (Rl)=>[.sl (l.map cRl)]) (fun l=>l.length*96<=reachBytes/\∀a∈l,True):=(RdA.of ra_Rl).sliceB Tryz.underlying48 (by kernel_rfl) (by decide) (Nat.le_of_ble_eq_true (by kernel_rfl)) (by kernel_rfl)
theorem rf_Tab:RdA Tryz.prog 47 1 (fun l:List (List Rl)=>[.sl (l.map cRls)]) (fun l=>l.length*24<=reachBytes/\∀a∈l,a.length*96<=reachBytes/\∀b∈a,True):=rf_Rls.sliceB Tryz.underlying47 (by kernel_rfl) (by decide) (Nat.le_of_ble_eq_true (by kernel_rfl)) (by kernel_rfl)
theorem rf_Tabs:RdA Tryz.prog 29 1 (fun l:List (List (List Rl))=>[.sl (l.map cTab)]) (fun l=>l.length*24<=reachBytes/\∀a∈l,a.length*24<=reachBytes/\∀b∈a,b.length*96<=reachBytes/\∀c∈b,True):=rf_Tab.sliceB Tryz.underlying29 (by kernel_rfl) (by decide) (Nat.le_of_ble_eq_true (by kernel_rfl)) (by kernel_rfl)
theorem rf_Topo:RdA Tryz.prog 24 1 (α:=Topo) cTopo (fun a=>a.ports.length*24<=reachBytes/\∀r∈a.ports,r.length*40<=reachBytes):=by
 refine ⟨fun _=>rfl,fun a=>List.all_eq_true.1 rfl,fun H e w base spare held fuel cs x hx hz=>?_⟩
 obtain ⟨m,hl,hp⟩:=struct_partZ Tryz.underlying24 hx hz
 have hl:cs.length=1:=hl.trans (by kernel_rfl)
 obtain ⟨a0,h0,q0⟩:=rf_Ptss.part (hp 0 22 0 1 rfl (by kernel_rfl))
 exact ⟨⟨a0⟩,PWs.all (h0.join rfl (PWs.nil hl)),q0.1,fun r hr=>(q0.2 r hr).1⟩
theorem rf_Pol:RdA Tryz.prog 28 3 (α:=Pol) cPol (fun a=>a.peers.length*16<=reachBytes/\a.ways.length*24<=reachBytes):=by
 refine ⟨fun _=>rfl,fun a=>List.all_eq_true.1 rfl,fun H e w base spare held fuel cs x hx hz=>?_⟩
 obtain ⟨m,hl,hp⟩:=struct_partZ Tryz.underlying28 hx hz
 have hl:cs.length=3:=hl.trans (by kernel_rfl)
 obtain ⟨a0,h0,_⟩:=(RdA.of ra_int).part (hp 0 3 0 1 rfl (by kernel_rfl))
 obtain ⟨a1,h1,q1⟩:=rf_Prs.part (hp 1 25 1 1 rfl (by kernel_rfl))
 obtain ⟨a2,h2,q2⟩:=rf_Wys.part (hp 2 26 2 1 rfl (by kernel_rfl))
 exact ⟨⟨a0,a1,a2⟩,PWs.all (h0.join rfl (h1.join rfl (h2.join rfl (PWs.nil hl)))),q1.1,q2.1⟩
theorem rf_Cf:RdA Tryz.prog 31 5 (α:=Cf) cCf (fun c=>c.Lens/\c.Fit):=by
 refine ⟨fun _=>rfl,fun a=>List.all_eq_true.1 rfl,fun H e w base spare held fuel cs x hx hz=>?_⟩
 obtain ⟨m,hl,hp⟩:=struct_partZ Tryz.underlying31 hx hz
 have hl:cs.length=5:=hl.trans (by kernel_rfl)
 obtain ⟨a0,h0,q0⟩:=rf_Topo.part (hp 0 24 0 1 rfl (by kernel_rfl))
 obtain ⟨a1,h1,q1⟩:=rf_Pol.part (hp 1 28 1 3 rfl (by kernel_rfl))
 obtain ⟨a2,h2,q2⟩:=rf_Tabs.part (hp 2 29 4 1 rfl (by kernel_rfl))
 refine ⟨⟨a0,a1,a2⟩,PWs.all (h0.join rfl (h1.join rfl (h2.join rfl (PWs.nil hl)))),fun t ht l hl=>?_,⟨q0.1,q0.2,q1.1,q1.2,q2.1,fun t ht=>(q2.2 t ht).1,fun t ht l hl=>((q2.2 t ht).2 l hl).1⟩⟩
 have:=((q2.2 t ht).2 l hl).1
 omega
end Go.Proofs.YtoaibdbehlcnfaaGreat.Sm
end
section
namespace Go.Proofs.YtoaibdbehlcnfaaGreat
open Go.RowKit Go.WideShapes Go.ChangeShapes Go.Deep Sm
theorem DifferNear_law {H:Type} {e:TypeId × Value->H} (W:World) (b0:Nat)
  (v0:Value) (d0:DataW H) (p0:List MemPlace) (ok0:Value.okWide Tryz.prog W .any b0 31 v0) (h0:DataW.Trod e Tryz.prog W 0 (fun _=>true) true 31 v0 d0 p0)
  (v1:Value) (d1:DataW H) (p1:List MemPlace) (ok1:Value.okWide Tryz.prog W .any b0 5 v1) (h1:DataW.Trod e Tryz.prog W 0 (fun _=>true) true 5 v1 d1 p1)
  (v2:Value) (d2:DataW H) (p2:List MemPlace) (ok2:Value.okWide Tryz.prog W .any b0 5 v2) (h2:DataW.Trod e Tryz.prog W 0 (fun _=>true) true 5 v2 d2 p2)
  (v3:Value) (d3:DataW H) (p3:List MemPlace) (ok3:Value.okWide Tryz.prog W .any b0 5 v3) (h3:DataW.Trod e Tryz.prog W 0 (fun _=>true) true 5 v3 d3 p3)
  (v4:Value) (d4:DataW H) (p4:List MemPlace) (ok4:Value.okWide Tryz.prog W .any b0 40 v4) (h4:DataW.Trod e Tryz.prog W 0 (fun _=>true) true 40 v4 d4 p4)
  (v5:Value) (d5:DataW H) (p5:List MemPlace) (ok5:Value.okWide Tryz.prog W .any b0 42 v5) (h5:DataW.Trod e Tryz.prog W 0 (fun _=>true) true 42 v5 d5 p5)
  (v6:Value) (d6:DataW H) (p6:List MemPlace) (ok6:Value.okWide Tryz.prog W .any b0 34 v6) (h6:DataW.Trod e Tryz.prog W 0 (fun _=>true) true 34 v6 d6 p6)
  (hsz:(DataW.weightsEach Tryz.prog [31,5,5,5,40,42,34] [d0,d1,d2,d3,d4,d5,d6]).all (·<=reachBytes)=true)
  : Calls Tryz.prog 3 #[v0,v1,v2,v3,v4,v5,v6] W fun e W'=>e = .returned (.bool true)/\Kp No W W':=by
 obtain ⟨a0,r0,q0⟩:=rf_Cf.arg_struct Tryz.underlying31 hsz 0 rfl rfl ok0 h0
 obtain ⟨a1,r1⟩:=ra_u8.arg_int Tryz.underlying5 ok1 h1
 obtain ⟨a2,r2⟩:=ra_u8.arg_int Tryz.underlying5 ok2 h2
 obtain ⟨a3,r3⟩:=ra_u8.arg_int Tryz.underlying5 ok3 h3
 obtain ⟨a4,r4⟩:=ra_Rl.arg_struct Tryz.underlying40 ok4 h4
 obtain ⟨a5,r5⟩:=ra_Sp.arg_struct Tryz.underlying42 ok5 h5
 obtain ⟨a6,r6⟩:=ra_Hd.arg_struct Tryz.underlying34 ok6 h6
 exact (DifferNear_d a0 a1 a2 a3 a4 a5 a6 q0.1 q0.2).law (vs:=[v0,v1,v2,v3,v4,v5,v6]) rfl (pw_cons r0 (pw_cons r1 (pw_cons r2 (pw_cons r3 (pw_cons r4 (pw_cons r5 (pw_cons r6 (pw_nil))))))))
end Go.Proofs.YtoaibdbehlcnfaaGreat
end
