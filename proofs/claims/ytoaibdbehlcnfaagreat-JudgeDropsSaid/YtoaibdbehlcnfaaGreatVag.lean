/- Contracts of the program's functions over data, and the plain laws that they meet (part 7). No condition. -/
import Derived.Test.YtoaibdbehlcnfaaGreatVaf
import Derived.WalkKit
import Derived.WalkSpells
import Derived.WalkLawsBesides
import Derived.Lib.Hide
import Derived.Deep.RegionHeld3
import Derived.Maps.AppendAt
import Derived.KernelRfl
import Derived.Lib.AppendStr
import Derived.Orders
import Derived.LoopTactic
import Derived.Laws.CopyRow
import Derived.Laws.Cells
import Derived.Great.BuildSlice
import Derived.Laws.ResultCell
import Derived.Laws.StructEq
import Derived.Laws.MakeOwn
import Derived.Lib.AppendZerosOnto
import Derived.Deep.Slices
import Derived.Deep.Fields
import Derived.ChangeSame
import Derived.ProofKit
import Derived.OpenShut
import Derived.SizedLaws
import Derived.Test.YtoaibdbehlcnfaaGreatProg
import Derived.Shelf.Spec.BitsCarry
import Derived.DeepKeys4
import Derived.MapKept
import Derived.Sort.AssemblyPlain
import Derived.Sort.LotD4
import Derived.Sort.Walk13a
set_option linter.unusedVariables false
set_option linter.unusedSimpArgs false
set_option maxRecDepth 100000
set_option maxHeartbeats 4000000
section
namespace Go.Proofs.YtoaibdbehlcnfaaGreat.Sm
open Go.RowKit
open Go.Sort (swp)
def bpB {L:Nat} (q:Nat->Option (Nat × Nat)) (l:List Rl) (n:Nat) (d:Array (Fin (L+1))) (r:UInt64):List (Nat × SB):=(9,⟨0,some (.box 338 [.u r])⟩)::gl q [210,201] (ioB l n d)
theorem bp_end {L:Nat} {l:List Rl} {d:Array (Fin (L+1))} {s:St} {q:Nat->Option (Nat × Nat)} {n e e1 e1' e3 g g1:Nat} {r:UInt64} {els:List (List AV)} {cs:List AV} (h3:s.σ 9=⟨e3,some (.box 338 cs)⟩) (h0:s.σ 210=⟨e,some (.box 368 [.sl (l.map cRl),.row 201 e1 0 n])⟩) (h1:s.σ 201=⟨e1',some (.row 3 1 els)⟩)
  (hg:s.σ 1110=⟨g,some (.ghost 210 e (q 210))⟩) (hg1:s.σ 1101=⟨g1,some (.ghost 201 e1' (q 201))⟩) (he:e1=e1') (hc:cs=[.u r]) (hel:els=d.toList.map numF) (hn:0+n<=(d.toList.map numF).length):WkB s (lkB (bpB q l n d r)) (bpB q l n d r):=by
 subst he hel hc
 exact ⟨.boxL h3 ⟨Rn.is rfl rfl,trivial⟩ rfl,.ghost hg h0 rfl,.ghost hg1 h1 rfl,.boxL h0 ⟨Rn.is rfl rfl,Rn.rowIs rfl h1 rfl,trivial⟩ rfl,.row h1 rfl,trivial⟩
theorem m_break (l:List Rl) (L:Nat) (hL:l.length=L+1) (n:Nat) (hl:n<=100000) (d:Array (Fin (L+1))) (hn:d.size=n) (a b:Nat) (hab:a+8<=b) (hb:b<=n) (h256:n<256) (q:Nat->Option (Nat × Nat)):MDoes Tryz.prog 312 [.row 201 0 0 n,.i .i64 ((a:Nat):Int),.i .i64 ((b:Nat):Int),.fn 300 [.own 210 0 0] []] (gl q [210,201] (ioB l n (d))) (.tup []) (gl q [210,201] (ioB l n (Go.Sort.breakPatterns d a b))):=by
 refine MDoes.of_body Tryz.func312 rfl (by kernel_rfl) rfl rfl ?_
 obtain ⟨G,hG⟩:∃R,Go.Sort.breakPatterns d a b=R:=⟨_,rfl⟩
 rw [hG]
 rw [brk_eq (by omega)] at hG
 have wl:IntKind.i64.wrap (((b:Nat):Int) - ((a:Nat):Int))=((b - a:Nat):Int):=by rw [IntKind.wrap_i64];omega
 generalize hm:b - a=m at wl hG
 have w2:=w_quo4 m 2 (by omega) (by decide) a (by omega)
 have wb:IntKind.i64.wrap (((a+m / 4*2:Nat):Int) - Int.ofNat 1)=((a+m / 4*2 - 1:Nat):Int):=by rw [IntKind.wrap_i64];simp only [Int.ofNat_eq_natCast];omega
 have wc:IntKind.i64.wrap (((a+m / 4*2:Nat):Int)+Int.ofNat 1)=((a+m / 4*2+1:Nat):Int):=by rw [IntKind.wrap_i64];simp only [Int.ofNat_eq_natCast];omega
 have hlen:=d_nextPow m (by omega)
 have hr0:ofI64 ((m:Nat):Int)=UInt64.ofNat m:=ofI_nat m (by omega)
 refine jB ?_
 refine AW.text ?_
 refine RG.runO ty_ok 0 [(15,.i .i64 ((m:Nat):Int))] 400 rfl jD ?_
 refine jA ?_
 refine AW.cond rfl (fun h0=>?_) (fun h0=>?_)
 rotate_left
 ·exfalso
  have:=of_decide_eq_false h0
  simp only [Int.ofNat_eq_natCast] at this
  omega
 refine jB ?_;refine wF ?_;refine wH rfl ?_;refine jB ?_
 refine AW.text ?_
 refine wH rfl ?_
 refine RG.callS rfl rfl rfl rfl rfl hlen rfl rfl ?_
 refine wH rfl ?_;refine jB ?_
 refine AW.text ?_
 refine RG.runO ty_ok 0 [(26,.i .i64 ((a+m / 4*2:Nat):Int)),(27,.i .i64 ((a+m / 4*2 - 1:Nat):Int))] 400 rfl jD ?_
 refine jA ?_
 have hm4:m / 4*2+1<m/\2<=m / 4:=by omega
 obtain ⟨c,hc⟩:∃c,a+m / 4*2 - 1=c:=⟨_,rfl⟩
 have hc1:a+m / 4*2=c+1:=by omega
 have hc2:a+m / 4*2+1=c+2:=by omega
 rw [hc] at hG
 refine AW.loopL (ι:=Nat × (UInt64 × Array (Fin (L+1)))) (fun x=>[(0,.row 201 0 0 n),(1,.i .i64 ((a:Nat):Int)),(8,.i .i64 ((m:Nat):Int)),(9,.own 9 0 0),(10,.u (pow2 m)),(11,.i .i64 ((x.1:Nat):Int))]) (fun x=>bpB q l n x.2.2 x.2.1) (fun x=>(c<=x.1/\x.1<=c+3/\x.2.2.size=n)/\(brkL a m (1 <<< Go.Sort.bitsLen m) (c+3 - x.1) x.1 x.2).2=G) (fun x=>c+3 - x.1) (c,(UInt64.ofNat m,d)) ⟨⟨Nat.le_refl _,by show c<=c+3;omega,hn⟩,by show (brkL a m _ (c+3 - c) c _).2=G;rw [Nat.add_sub_cancel_left];exact hG⟩ ⟨Rn.rowIs rfl rfl rfl,Rn.is rfl rfl,Rn.is rfl rfl,Rn.ownIs rfl rfl rfl,Rn.is rfl rfl,Rn.is (congrArg (AV.i .i64) (show (((a+m / 4*2 - 1:Nat):Int))=((c:Nat):Int) by rw [hc])) rfl,trivial⟩ (bp_end rfl rfl rfl rfl rfl rfl (by rw [<- hr0]) (rfl) (rowFit hn)) fun x hx=>?_
 clear hG hn
 obtain ⟨i,r,v⟩:=x
 obtain ⟨⟨hi0,hi,hv⟩,hG⟩:=hx
 simp only at hi0 hi hv hG
 refine jB ?_
 refine AW.text ?_
 refine RG.runO ty_ok 0 [(33,.i .i64 ((a+m / 4*2:Nat):Int)),(34,.i .i64 ((a+m / 4*2+1:Nat):Int))] 400 rfl jD ?_
 refine jB ?_
 refine AW.cond rfl (fun h1=>?_) (fun h1=>?_)
 rotate_left
 ·have k:i=c+3:=by
   have:=of_decide_eq_false h1
   try simp only at this
   omega
  subst k
  rw [Nat.sub_self,brkL] at hG
  subst hG
  refine jA ?_
  refine AW.exit ?_;refine Eq.mpr (if_pos rfl) ?_;refine jA ?_
  exact retM0 rfl (.inl rfl) (io_end rfl rfl rfl rfl rfl (rfl) (rowFit hv))
 have k:i<=c+2:=by
  have:=of_decide_eq_true h1
  try simp only at this
  omega
 rw [show c+3 - i=(c+3 - (i+1))+1 by omega,brkL,brk_step] at hG
 have ho:=brkO_lt (len:=m) (by omega) r
 have hoth:=pow2_and (len:=m) (by omega) (by omega) (Go.Sort.xorNext r)
 have hmd:=Go.Sort.two_pow_bitsLen_le (n:=m) (by omega)
 have hle:(Go.Sort.xorNext r).toNat &&& ((1 <<< Go.Sort.bitsLen m) - 1)<=(1 <<< Go.Sort.bitsLen m) - 1:=Nat.and_le_right
 rw [Nat.one_shiftLeft] at hle
 obtain ⟨o,hO⟩:∃o,brkO m (1 <<< Go.Sort.bitsLen m) r=o:=⟨_,rfl⟩
 rw [hO] at ho hG
 rw [brkO] at hO
 rw [Nat.one_shiftLeft] at hoth hO
 generalize (Go.Sort.xorNext r).toNat &&& (2 ^ Go.Sort.bitsLen m - 1)=oth at hoth hO hle
 have w3:oth<=100000:=by omega
 refine jB ?_
 refine AW.text ?_
 refine wH rfl ?_
 refine RG.ownN [(9,240)] [(240,9)] (fun q=>m_next r q) rfl rfl rfl rfl rfl rfl rfl rfl rfl rfl ?_
 refine RG.runO ty_ok 0 [(42,.i .i64 ((oth:Nat):Int))] 400 rfl jD ?_
 refine jA ?_
 refine AW.cutT (ι:=Unit) (fun _=>[(0,.row 201 0 0 n),(1,.i .i64 ((a:Nat):Int)),(8,.i .i64 ((m:Nat):Int)),(9,.own 9 0 0),(10,.u (pow2 m)),(11,.i .i64 ((i:Nat):Int)),(12,.i .i64 ((o:Nat):Int))]) (fun _=>bpB q l n v (Go.Sort.xorNext r)) (fun _=>True) ?_ fun _ _=>?_
 ·refine AW.cond rfl (fun h2=>?_) (fun h2=>?_)
  ·have k2:oth>=m:=by
    have:=of_decide_eq_true h2
    try simp only at this
    omega
   rw [decide_eq_true k2,cond_true] at hO
   have wo:IntKind.i64.wrap (((oth:Nat):Int) - ((m:Nat):Int))=((o:Nat):Int):=by rw [IntKind.wrap_i64];omega
   refine jA ?_
   exact ⟨(),trivial,⟨Rn.rowIs rfl rfl rfl,Rn.is rfl rfl,Rn.is rfl rfl,Rn.ownIs rfl rfl rfl,Rn.is rfl rfl,Rn.is rfl rfl,Rn.is (congrArg (AV.i .i64) wo) rfl,trivial⟩,bp_end rfl rfl rfl rfl rfl rfl (rfl) (rfl) (rowFit hv)⟩
  ·have k2:¬oth>=m:=by
    have:=of_decide_eq_false h2
    try simp only at this
    omega
   rw [decide_eq_false k2,cond_false] at hO
   subst hO
   refine jA ?_
   exact ⟨(),trivial,⟨Rn.rowIs rfl rfl rfl,Rn.is rfl rfl,Rn.is rfl rfl,Rn.ownIs rfl rfl rfl,Rn.is rfl rfl,Rn.is rfl rfl,Rn.is rfl rfl,trivial⟩,bp_end rfl rfl rfl rfl rfl rfl (rfl) (rfl) (rowFit hv)⟩
 have wi:IntKind.i64.wrap (((i:Nat):Int)+Int.ofNat 1)=((i+1:Nat):Int):=by simp only [IntKind.wrap_i64,Int.ofNat_eq_natCast];omega
 have hv2:=(swp_sz v i (a+o)).trans hv
 refine jB ?_
 refine AW.draws mixed_ok ?_
 refine wH rfl ?_;refine RG.opS rfl (op_ixW (a+o) numF ((v).toList) (by omega) rfl (tab_ok ty_ok rfl) rfl (tab_ok ty_ok rfl) rfl rfl rfl jX) rfl ?_;refine RG.opS rfl (op_ldW (a+o) numF (v) (by omega) rfl (tab_ok ty_ok rfl) rfl rfl rfl) rfl ?_;refine wH rfl ?_;refine RG.opS rfl (op_ixW (i) numF ((v).toList) (by omega) rfl (tab_ok ty_ok rfl) rfl (tab_ok ty_ok rfl) rfl rfl rfl jX) rfl ?_;refine RG.opS rfl (op_ldW (i) numF (v) (by omega) rfl (tab_ok ty_ok rfl) rfl rfl rfl) rfl ?_;refine wH rfl ?_;refine RG.opS rfl (op_ixW (i) numF ((v).toList) (by omega) rfl (tab_ok ty_ok rfl) rfl (tab_ok ty_ok rfl) rfl rfl rfl jX) rfl ?_;refine RG.opS rfl (op_stW (i) numF ((v).toList) ((v)[a+o]!) (by simp only [List.length_set,Array.length_toList];omega) rfl (tab_ok ty_ok rfl) rfl rfl rfl rfl rfl (fun _=>rfl)) rfl ?_;refine wH rfl ?_;refine RG.opS rfl (op_ixW (a+o) numF (((v).toList.set (i) (v)[a+o]!)) (by omega) rfl (tab_ok ty_ok rfl) rfl (tab_ok ty_ok rfl) rfl rfl rfl jX) rfl ?_;refine RG.opS rfl (op_stW (a+o) numF (((v).toList.set (i) (v)[a+o]!)) ((v)[i]!) (by simp only [List.length_set,Array.length_toList];omega) rfl (tab_ok ty_ok rfl) rfl rfl rfl rfl rfl (fun _=>rfl)) rfl ?_
 refine wH rfl ?_;refine jB ?_
 refine AW.text ?_
 refine wH rfl ?_;refine jB ?_
 exact ⟨(i+1,(Go.Sort.xorNext r,swp v i (a+o))),⟨⟨⟨by show c<=i+1;omega,by show i+1<=c+3;omega,hv2⟩,hG⟩,by show c+3 - (i+1)<c+3 - i;omega⟩,⟨Rn.rowTIs rfl rfl rfl (rowFit (hv2)),Rn.is rfl rfl,Rn.is rfl rfl,Rn.ownIs rfl rfl rfl,Rn.is rfl rfl,Rn.is (congrArg (AV.i .i64) wi) rfl,trivial⟩,bp_end rfl rfl rfl rfl rfl rfl (rfl) (by rw [swp_list]) (rowFit hv2)⟩
end Go.Proofs.YtoaibdbehlcnfaaGreat.Sm
end
section
namespace Go.Proofs.YtoaibdbehlcnfaaGreat.Sm
open Go.RowKit
open Go.Sort (swp)
open Go.Sort (SWO Below PermIn SortedIn)
theorem hint2 (h:Go.Sort.Hint):decide (Go.Sort.hintCode h=2)=decide (h = .decreasing):=by cases h <;> rfl
theorem hint1 (h:Go.Sort.Hint):decide (Go.Sort.hintCode h=1)=decide (h = .increasing):=by cases h <;> rfl
theorem heap_sz {α:Type} [Inhabited α] {lt:α->α->Bool} (d:Array α) (a b:Nat):(Go.Sort.heapSort lt d a b).size=d.size:=by
 rw [Go.Sort.heapSort,pop_sz,build_sz]
theorem m_pdq (l : List Rl) (L : Nat) (hL : l.length = L + 1) (n : Nat) (hl : n <= 100000) (h256 : n < 256) (hS : SWO (ltI l L)) : ∀ (f a b lim : Nat) (d : Array (Fin (L + 1))), d.size = n -> a <= b -> b <= n -> b - a <= f -> lim <= 1000 -> Below (ltI l L) a b d -> ∀ (q : Nat -> Option (Nat × Nat)),
    MDoes Tryz.prog 306 [.row 201 0 0 n,.i .i64 ((a:Nat):Int),.i .i64 ((b:Nat):Int),.i .i64 ((lim:Nat):Int),.fn 300 [.own 210 0 0] []] (gl q [210,201] (ioB l n (d))) (.tup []) (gl q [210,201] (ioB l n (Go.Sort.pdq (ltI l L) d a b lim true true))):=by
  intro f
  induction f using Nat.strongRecOn with
  | ind f IH =>
  intro a b lim d hn hab hb hf hlim hB q
  refine MDoes.of_body Tryz.func306 rfl (by kernel_rfl) rfl rfl ?_
  generalize hG:Go.Sort.pdq (ltI l L) d a b lim true true=G
  refine jA ?_
  refine AW.loopL (ι:=(Nat × Nat × Nat) × (Bool × Bool) × Array (Fin (L+1))) (fun x=>[(0,.row 201 0 0 n),(1,.i .i64 ((x.1.1:Nat):Int)),(2,.i .i64 ((x.1.2.1:Nat):Int)),(3,.i .i64 ((x.1.2.2:Nat):Int)),(4,.fn 300 [.own 210 0 0] []),(10,.b x.2.1.1),(11,.b x.2.1.2)]) (fun x=>gl q [210,201] (ioB l n (x.2.2))) (fun x=>(x.1.1<=x.1.2.1/\x.1.2.1<=n/\x.1.2.1 - x.1.1<=f/\x.1.2.2<=1000/\x.2.2.size=n/\Below (ltI l L) x.1.1 x.1.2.1 x.2.2)/\Go.Sort.pdq (ltI l L) x.2.2 x.1.1 x.1.2.1 x.1.2.2 x.2.1.1 x.2.1.2=G) (fun x=>x.1.2.1 - x.1.1) ((a,b,lim),(true,true),d) ⟨⟨hab,hb,hf,hlim,hn,hB⟩,hG⟩ ⟨Rn.rowIs rfl rfl rfl,Rn.is rfl rfl,Rn.is rfl rfl,Rn.is rfl rfl,Rn.fnO rfl rfl rfl,Rn.is rfl rfl,Rn.is rfl rfl,trivial⟩ (io_end rfl rfl rfl rfl rfl (rfl) (rowFit (by assumption))) fun x hx=>?_
  clear hG hn hab hb hf hlim hB
  obtain ⟨⟨a,b,lim⟩,⟨wb,wp⟩,d⟩:=x
  obtain ⟨⟨hab,hb,hf,hlim,hn,hB⟩,hG⟩:=hx
  simp only at hab hb hf hlim hn hB hG
  have p:=Go.Sort.pdq_unfold (lt:=ltI l L) (d:=d) (a:=a) (b:=b) (limit:=lim) (wb:=wb) (wp:=wp)
  rw [p] at hG
  clear p
  have wl:IntKind.i64.wrap (((b:Nat):Int) - ((a:Nat):Int))=((b - a:Nat):Int):=by rw [IntKind.wrap_i64];omega
  refine jB ?_
  refine AW.text ?_
  refine RG.runO ty_ok 0 [(23,.i .i64 ((b - a:Nat):Int))] 400 rfl jD ?_
  refine jA ?_
  refine AW.cond rfl (fun h0=>?_) (fun h0=>?_)
  · have h : b - a <= 12 := by
      have:=of_decide_eq_true h0
      simp only [Int.ofNat_eq_natCast] at this
      omega
    rw [if_pos h] at hG
    subst hG
    have hs:=ins_pm (ltI l L) d a b (by omega)
    refine jA ?_
    refine RG.ownK [(210,210),(201,201)] [(210,210),(201,201)] 201 201 (rowLen (hs.1)) (fun q=>m_insI l L hL n hl d hn a b (by omega) hb q) rfl rfl rfl rfl rfl rfl rfl rfl rfl rfl rfl rfl rfl ?_
    refine wH rfl ?_;refine jA ?_
    exact AW.ret (retM0 rfl (.inr rfl) (io_end rfl rfl rfl rfl rfl (rfl) (rowFit (hs.1.trans hn))))
  have h:¬b - a<=12:=by
    have:=of_decide_eq_false h0
    simp only [Int.ofNat_eq_natCast] at this
    omega
  rw [if_neg h] at hG
  refine jA ?_
  refine AW.cond rfl (fun h1=>?_) (fun h1=>?_)
  · have k : lim = 0 := by
      have:=of_decide_eq_true h1
      simp only [Int.ofNat_eq_natCast] at this
      omega
    rw [if_pos k] at hG
    subst hG
    have hs:=heap_sz (lt:=ltI l L) d a b
    refine jA ?_
    refine RG.ownK [(210,210),(201,201)] [(210,210),(201,201)] 201 201 (rowLen (hs)) (fun q=>m_heap l L hL n hl d hn a b (by omega) hb q) rfl rfl rfl rfl rfl rfl rfl rfl rfl rfl rfl rfl rfl ?_
    refine wH rfl ?_;refine jA ?_
    exact AW.ret (retM0 rfl (.inr rfl) (io_end rfl rfl rfl rfl rfl (rfl) (rowFit (hs.trans hn))))
  have k:¬lim=0:=by
    have:=of_decide_eq_false h1
    simp only [Int.ofNat_eq_natCast] at this
    omega
  rw [if_neg k] at hG
  have hF:=Go.Sort.rd_facts (limit:=lim) (wb:=wb) (wp:=wp) hS Go.Sort.partialInsertionSort_holds Go.Sort.reverseRange_holds (show a<b by omega) (show b<=d.size by omega) hB
  have hlm:=Go.Sort.rd_lim_le (lt:=ltI l L) (d:=d) (a:=a) (b:=b) (limit:=lim) (wb:=wb) (wp:=wp)
  obtain ⟨X,hX⟩:∃X,Go.Sort.rd (ltI l L) d a b lim wb wp=X:=⟨_,rfl⟩
  rw [hX] at hG hF hlm
  have q1:X.d1=(if (!wb)=true then Go.Sort.breakPatterns d a b else d):=by rw [<- hX];rfl
  have q2:X.lim=(if (!wb)=true then lim - 1 else lim):=by rw [<- hX];rfl
  have q0:X.c=Go.Sort.choosePivot (ltI l L) X.d1 a b:=by rw [<- hX];rfl
  have q3:X.d2=(if X.c.2 = .decreasing then Go.Sort.reverseRange X.d1 a b else X.d1):=by rw [<- hX];rfl
  have q4:X.pivot=(if X.c.2 = .decreasing then (b - 1) - (X.c.1 - a) else X.c.1):=by rw [<- hX];rfl
  have q5:X.hint=(if X.c.2 = .decreasing then Go.Sort.Hint.increasing else X.c.2):=by rw [<- hX];rfl
  have q6:X.pi=(if (wb && wp && decide (X.hint = .increasing))=true then Go.Sort.partialInsertionSort (ltI l L) X.d2 a b else (X.d2,false)):=by rw [<- hX];rfl
  clear hX
  obtain ⟨s1,B1,⟨c1,c2⟩,s2,B2,⟨v1,v2⟩,s3,B3⟩:=hF
  have s1:=s1.trans hn
  have s2:=s2.trans hn
  have s3:=s3.trans hn
  refine jA ?_
  refine AW.cutT (ι:=Unit) (fun _=>[(0,.row 201 0 0 n),(1,.i .i64 ((a:Nat):Int)),(2,.i .i64 ((b:Nat):Int)),(3,.i .i64 ((X.lim:Nat):Int)),(4,.fn 300 [.own 210 0 0] []),(10,.b wb),(11,.b wp),(12,.i .i64 ((b - a:Nat):Int))]) (fun _=>gl q [210,201] (ioB l n (X.d1))) (fun _=>True) ?_ fun _ _=>?_
  · refine AW.cond rfl (fun h2=>?_) (fun h2=>?_)
    · rw [if_pos h2] at q1 q2
      have wm:IntKind.i64.wrap (((lim:Nat):Int) - Int.ofNat 1)=((X.lim:Nat):Int):=by rw [q2,IntKind.wrap_i64];simp only [Int.ofNat_eq_natCast];omega
      have hbk:=m_break l L hL n hl d hn a b (by omega) hb h256
      rw [<- q1] at hbk
      refine jA ?_
      refine RG.ownK [(210,210),(201,201)] [(210,210),(201,201)] 201 201 (rowLen (s1.trans hn.symm)) (fun q=>hbk q) rfl rfl rfl rfl rfl rfl rfl rfl rfl rfl rfl rfl rfl ?_
      refine wH rfl ?_;refine jA ?_
      exact ⟨(),trivial,⟨Rn.rowIs rfl rfl rfl,Rn.is rfl rfl,Rn.is rfl rfl,Rn.is (congrArg (AV.i .i64) wm) rfl,Rn.fnO rfl rfl rfl,Rn.is rfl rfl,Rn.is rfl rfl,Rn.is rfl rfl,trivial⟩,io_end rfl rfl rfl rfl rfl (rfl) (rowFit s1)⟩
    · rw [if_neg (by rw [h2];decide)] at q1 q2
      rw [q1,q2]
      refine jA ?_
      exact ⟨(),trivial,⟨Rn.rowIs rfl rfl rfl,Rn.is rfl rfl,Rn.is rfl rfl,Rn.is rfl rfl,Rn.fnO rfl rfl rfl,Rn.is rfl rfl,Rn.is rfl rfl,Rn.is rfl rfl,trivial⟩,io_end rfl rfl rfl rfl rfl (rfl) (rowFit hn)⟩
  clear q1 q2
  have hpv:=m_pivot l L hL n hl X.d1 s1 a b (by omega) hb
  have e0:Go.Sort.choosePivot (ltI l L) X.d1 a b=((Go.Sort.rawPivot (ltI l L) X.d1 a b).1,Go.Sort.hintOf (Go.Sort.rawPivot (ltI l L) X.d1 a b).2):=Go.Sort.choosePivot_eq _ _ _ _
  have e1:(Go.Sort.rawPivot (ltI l L) X.d1 a b).1=X.c.1:=by rw [q0,e0]
  have e2:Go.Sort.hintOf (Go.Sort.rawPivot (ltI l L) X.d1 a b).2=X.c.2:=by rw [q0,e0]
  rw [e1,e2] at hpv
  clear e0 e1 e2 q0
  refine jA ?_
  refine RG.ownK [(210,210),(201,201)] [(210,210),(201,201)] 201 201 (rowLen (rfl)) (fun q=>hpv q) rfl rfl rfl rfl rfl rfl rfl rfl rfl rfl rfl rfl rfl ?_
  refine wH rfl ?_;refine jA ?_
  refine AW.cutT (ι:=Unit) (fun _=>[(0,.row 201 0 0 n),(1,.i .i64 ((a:Nat):Int)),(2,.i .i64 ((b:Nat):Int)),(3,.i .i64 ((X.lim:Nat):Int)),(4,.fn 300 [.own 210 0 0] []),(10,.b wb),(11,.b wp),(12,.i .i64 ((b - a:Nat):Int)),(13,.i .i64 ((X.pivot:Nat):Int)),(14,.i .i64 (Go.Sort.hintCode X.hint))]) (fun _=>gl q [210,201] (ioB l n (X.d2))) (fun _=>True) ?_ fun _ _=>?_
  · refine AW.cond rfl (fun h2=>?_) (fun h2=>?_)
    · have k2:X.c.2 = .decreasing:=of_decide_eq_true ((hint2 X.c.2).symm.trans h2)
      rw [if_pos k2] at q3 q4 q5
      have hrv:=m_revI l L hL n hl X.d1 s1 a b (by omega) hb
      rw [<- q3] at hrv
      have wa:IntKind.i64.wrap (((b:Nat):Int) - Int.ofNat 1)=((b - 1:Nat):Int):=by rw [IntKind.wrap_i64];simp only [Int.ofNat_eq_natCast];omega
      have wc:IntKind.i64.wrap (((X.c.1:Nat):Int) - ((a:Nat):Int))=((X.c.1 - a:Nat):Int):=by rw [IntKind.wrap_i64];omega
      have wd:IntKind.i64.wrap (((b - 1:Nat):Int) - ((X.c.1 - a:Nat):Int))=((X.pivot:Nat):Int):=by rw [q4,IntKind.wrap_i64];omega
      refine jA ?_
      refine RG.ownK [(210,210),(201,201)] [(210,210),(201,201)] 201 201 (rowLen (s2.trans s1.symm)) (fun q=>hrv q) rfl rfl rfl rfl rfl rfl rfl rfl rfl rfl rfl rfl rfl ?_
      refine wH rfl ?_;refine jB ?_
      refine AW.text ?_
      refine RG.runO ty_ok 0 [(63,.i .i64 ((b - 1:Nat):Int)),(66,.i .i64 ((X.c.1 - a:Nat):Int)),(67,.i .i64 ((X.pivot:Nat):Int))] 400 rfl jD ?_
      refine jA ?_
      exact ⟨(),trivial,⟨Rn.rowIs rfl rfl rfl,Rn.is rfl rfl,Rn.is rfl rfl,Rn.is rfl rfl,Rn.fnO rfl rfl rfl,Rn.is rfl rfl,Rn.is rfl rfl,Rn.is rfl rfl,Rn.is rfl rfl,Rn.is (by rw [q5];rfl) rfl,trivial⟩,io_end rfl rfl rfl rfl rfl (rfl) (rowFit s2)⟩
    · have k2:¬X.c.2 = .decreasing:=of_decide_eq_false ((hint2 X.c.2).symm.trans h2)
      rw [if_neg k2] at q3 q4 q5
      rw [q3,q4,q5]
      refine jA ?_
      exact ⟨(),trivial,⟨Rn.rowIs rfl rfl rfl,Rn.is rfl rfl,Rn.is rfl rfl,Rn.is rfl rfl,Rn.fnO rfl rfl rfl,Rn.is rfl rfl,Rn.is rfl rfl,Rn.is rfl rfl,Rn.is rfl rfl,Rn.is rfl rfl,trivial⟩,io_end rfl rfl rfl rfl rfl (rfl) (rowFit s1)⟩
  clear q3 q4 q5
  refine jB ?_
  refine AW.cutT (ι:=Unit) (fun _=>[(0,.row 201 0 0 n),(1,.i .i64 ((a:Nat):Int)),(2,.i .i64 ((b:Nat):Int)),(3,.i .i64 ((X.lim:Nat):Int)),(4,.fn 300 [.own 210 0 0] []),(10,.b wb),(11,.b wp),(12,.i .i64 ((b - a:Nat):Int)),(13,.i .i64 ((X.pivot:Nat):Int)),(14,.i .i64 (Go.Sort.hintCode X.hint)),(75,.b (wb && wp && decide (X.hint = .increasing)))]) (fun _=>gl q [210,201] (ioB l n (X.d2))) (fun _=>True) ?_ fun _ _=>?_
  · refine AW.text ?_
    cases wb
    · refine wH rfl ?_;refine jB ?_
      exact ⟨(),trivial,⟨Rn.rowIs rfl rfl rfl,Rn.is rfl rfl,Rn.is rfl rfl,Rn.is rfl rfl,Rn.fnO rfl rfl rfl,Rn.is rfl rfl,Rn.is rfl rfl,Rn.is rfl rfl,Rn.is rfl rfl,Rn.is rfl rfl,Rn.is rfl rfl,trivial⟩,io_end rfl rfl rfl rfl rfl (rfl) (rowFit s2)⟩
    cases wp
    · refine wH rfl ?_;refine jB ?_
      exact ⟨(),trivial,⟨Rn.rowIs rfl rfl rfl,Rn.is rfl rfl,Rn.is rfl rfl,Rn.is rfl rfl,Rn.fnO rfl rfl rfl,Rn.is rfl rfl,Rn.is rfl rfl,Rn.is rfl rfl,Rn.is rfl rfl,Rn.is rfl rfl,Rn.is rfl rfl,trivial⟩,io_end rfl rfl rfl rfl rfl (rfl) (rowFit s2)⟩
    refine wH rfl ?_;refine jB ?_
    exact ⟨(),trivial,⟨Rn.rowIs rfl rfl rfl,Rn.is rfl rfl,Rn.is rfl rfl,Rn.is rfl rfl,Rn.fnO rfl rfl rfl,Rn.is rfl rfl,Rn.is rfl rfl,Rn.is rfl rfl,Rn.is rfl rfl,Rn.is rfl rfl,Rn.is (congrArg AV.b (by rw [Bool.true_and,Bool.true_and];exact hint1 X.hint)) rfl,trivial⟩,io_end rfl rfl rfl rfl rfl (rfl) (rowFit s2)⟩
  refine jB ?_
  refine AW.cutT (ι:=Unit) (fun _=>[(0,.row 201 0 0 n),(1,.i .i64 ((a:Nat):Int)),(2,.i .i64 ((b:Nat):Int)),(3,.i .i64 ((X.lim:Nat):Int)),(4,.fn 300 [.own 210 0 0] []),(10,.b wb),(11,.b wp),(12,.i .i64 ((b - a:Nat):Int)),(13,.i .i64 ((X.pivot:Nat):Int))]) (fun _=>gl q [210,201] (ioB l n (X.pi.1))) (fun _=>X.pi.2=false) ?_ fun _ hpi=>?_
  · refine AW.cond rfl (fun h2=>?_) (fun h2=>?_)
    · rw [if_pos h2] at q6
      have hpn:=m_pins l L hL n hl X.d2 s2 a b (by omega) hb
      rw [<- q6] at hpn
      refine jA ?_
      refine RG.ownK [(210,210),(201,201)] [(210,210),(201,201)] 201 201 (rowLen (s3.trans s2.symm)) (fun q=>hpn q) rfl rfl rfl rfl rfl rfl rfl rfl rfl rfl rfl rfl rfl ?_
      refine wH rfl ?_;refine jA ?_
      refine AW.cond rfl (fun h3=>?_) (fun h3=>?_)
      · rw [if_pos h3] at hG
        subst hG
        exact AW.ret (retM0 rfl (.inr rfl) (io_end rfl rfl rfl rfl rfl (rfl) (rowFit s3)))
      · refine jA ?_
        exact ⟨(),h3,⟨Rn.rowIs rfl rfl rfl,Rn.is rfl rfl,Rn.is rfl rfl,Rn.is rfl rfl,Rn.fnO rfl rfl rfl,Rn.is rfl rfl,Rn.is rfl rfl,Rn.is rfl rfl,Rn.is rfl rfl,trivial⟩,io_end rfl rfl rfl rfl rfl (rfl) (rowFit s3)⟩
    · rw [if_neg (by rw [h2];decide)] at q6
      have q7:X.pi.1=X.d2:=by rw [q6]
      have q8:X.pi.2=false:=by rw [q6]
      rw [q7]
      refine jA ?_
      exact ⟨(),q8,⟨Rn.rowIs rfl rfl rfl,Rn.is rfl rfl,Rn.is rfl rfl,Rn.is rfl rfl,Rn.fnO rfl rfl rfl,Rn.is rfl rfl,Rn.is rfl rfl,Rn.is rfl rfl,Rn.is rfl rfl,trivial⟩,io_end rfl rfl rfl rfl rfl (rfl) (rowFit s2)⟩
  rw [if_neg (by rw [hpi];decide)] at hG
  clear q6 hpi
  refine jB ?_
  refine AW.cutT (ι:=Unit) (fun _=>[(0,.row 201 0 0 n),(1,.i .i64 ((a:Nat):Int)),(2,.i .i64 ((b:Nat):Int)),(3,.i .i64 ((X.lim:Nat):Int)),(4,.fn 300 [.own 210 0 0] []),(10,.b wb),(11,.b wp),(12,.i .i64 ((b - a:Nat):Int)),(13,.i .i64 ((X.pivot:Nat):Int)),(97,.b (decide (a>0) && !ltI l L X.pi.1[a - 1]! X.pi.1[X.pivot]!))]) (fun _=>gl q [210,201] (ioB l n (X.pi.1))) (fun _=>True) ?_ fun _ _=>?_
  · refine AW.draws mixed_ok ?_
    by_cases g1:(0:Int)<((a:Nat):Int)
    · refine RG.runO ty_ok 0 [(82,.b true)] 400 rfl jD ?_
      refine wH rfl ?_;refine RG.opS rfl (op_ixW (a - 1) numF ((X.pi.1).toList) (by omega) rfl (tab_ok ty_ok rfl) rfl (tab_ok ty_ok rfl) rfl rfl rfl jX) rfl ?_;refine RG.opS rfl (op_ldW (a - 1) numF (X.pi.1) (by omega) rfl (tab_ok ty_ok rfl) rfl rfl rfl) rfl ?_
      refine wH rfl ?_;refine RG.opS rfl (op_ixW (X.pivot) numF ((X.pi.1).toList) (by omega) rfl (tab_ok ty_ok rfl) rfl (tab_ok ty_ok rfl) rfl rfl rfl jX) rfl ?_;refine RG.opS rfl (op_ldW (X.pivot) numF (X.pi.1) (by omega) rfl (tab_ok ty_ok rfl) rfl rfl rfl) rfl ?_
      refine wH rfl ?_
      refine RG.ownK [(210,210),(201,201)] [(210,210),(201,201)] 201 201 rfl (fun q=>m_compare l L hL n (X.pi.1) (X.pi.1[a - 1]!) (X.pi.1[X.pivot]!) q (rowFit (by assumption))) rfl rfl rfl rfl rfl rfl rfl rfl rfl rfl rfl rfl rfl ?_
      refine wH rfl ?_;refine jB ?_
      exact ⟨(),trivial,⟨Rn.rowIs rfl rfl rfl,Rn.is rfl rfl,Rn.is rfl rfl,Rn.is rfl rfl,Rn.fnO rfl rfl rfl,Rn.is rfl rfl,Rn.is rfl rfl,Rn.is rfl rfl,Rn.is rfl rfl,Rn.is (congrArg AV.b (by rw [decide_eq_true (show a>0 by omega),Bool.true_and];rfl)) rfl,trivial⟩,io_end rfl rfl rfl rfl rfl (rfl) (rowFit s3)⟩
    · refine RG.runO ty_ok 0 [(82,.b false)] 400 rfl jD ?_
      refine jB ?_
      exact ⟨(),trivial,⟨Rn.rowIs rfl rfl rfl,Rn.is rfl rfl,Rn.is rfl rfl,Rn.is rfl rfl,Rn.fnO rfl rfl rfl,Rn.is rfl rfl,Rn.is rfl rfl,Rn.is rfl rfl,Rn.is rfl rfl,Rn.is (congrArg AV.b (by rw [decide_eq_false (show ¬a>0 by omega),Bool.false_and])) rfl,trivial⟩,io_end rfl rfl rfl rfl rfl (rfl) (rowFit s3)⟩
  cases hcb:(decide (a>0) && !ltI l L X.pi.1[a - 1]! X.pi.1[X.pivot]!)
  rotate_left
  · rw [if_pos hcb] at hG
    rw [Bool.and_eq_true,decide_eq_true_eq,Bool.not_eq_true'] at hcb
    have hpe:=m_partEq l L hL n hl X.pi.1 s3 a b X.pivot v1 v2 hb
    obtain ⟨⟨mid,d4⟩,hx⟩:∃z,Go.Sort.partitionEqual (ltI l L) X.pi.1 a b X.pivot=z:=⟨_,rfl⟩
    obtain ⟨g1,g2,g3,g4,_⟩:=Go.Sort.round_eq hS (Go.Sort.partitionEqual_holds _) hcb.1 v1 v2 (by omega) B3 hcb.2 hx
    rw [hx] at hpe hG
    simp only at hpe
    rw [if_pos ⟨g1,g2⟩] at hG
    simp only at hG
    have hn4:=g3.trans s3
    refine AW.cond rfl (fun _=>?_) (fun h1=>by cases h1)
    refine jA ?_
    refine RG.ownK [(210,210),(201,201)] [(210,210),(201,201)] 201 201 (rowLen (g3)) (fun q=>hpe q) rfl rfl rfl rfl rfl rfl rfl rfl rfl rfl rfl rfl rfl ?_
    refine wH rfl ?_;refine jA ?_
    refine AW.exit ?_;first | (refine Eq.mpr (if_pos rfl) ?_) | (refine Eq.mpr (if_neg (by decide)) ?_;refine Eq.mpr (if_pos rfl) ?_) | (refine Eq.mpr (if_neg (by decide)) ?_;refine Eq.mpr (if_neg (by decide)) ?_;refine Eq.mpr (if_pos rfl) ?_);refine jA ?_
    exact ⟨((mid,b,X.lim),(wb,wp),d4),⟨⟨⟨g2,hb,by show b - mid<=f;omega,by show X.lim<=1000;omega,hn4,g4⟩,hG⟩,by show b - mid<b - a;omega⟩,⟨Rn.rowIs rfl rfl rfl,Rn.is rfl rfl,Rn.is rfl rfl,Rn.is rfl rfl,Rn.fnO rfl rfl rfl,Rn.is rfl rfl,Rn.is rfl rfl,trivial⟩,io_end rfl rfl rfl rfl rfl (rfl) (rowFit hn4)⟩
  rw [if_neg (by rw [hcb];decide)] at hG
  clear hcb
  have hpt:=m_part l L hL n hl X.pi.1 s3 a b X.pivot v1 v2 hb
  obtain ⟨⟨mid,ap,d4⟩,hx⟩:∃z,Go.Sort.partition (ltI l L) X.pi.1 a b X.pivot=z:=⟨_,rfl⟩
  obtain ⟨g1,g2,g3,g4,g5,g6,g7⟩:=Go.Sort.round_part hS (Go.Sort.partition_holds _) v1 v2 (by omega) B3 hx
  rw [hx] at hpt hG
  simp only at hpt hG
  rw [if_pos ⟨g1,g2⟩] at hG
  have hn4:=g3.trans s3
  have wL:IntKind.i64.wrap (((mid:Nat):Int) - ((a:Nat):Int))=((mid - a:Nat):Int):=by rw [IntKind.wrap_i64];omega
  have wR:IntKind.i64.wrap (((b:Nat):Int) - ((mid:Nat):Int))=((b - mid:Nat):Int):=by rw [IntKind.wrap_i64];omega
  have w8:IntKind.i64.wrap (Int.tdiv ((b - a:Nat):Int) (Int.ofNat 8))=(((b - a) / 8:Nat):Int):=by
    rw [Int.tdiv_eq_ediv_of_nonneg (by omega),IntKind.wrap_i64];simp only [Int.ofNat_eq_natCast];omega
  have wI:IntKind.i64.wrap (((mid:Nat):Int)+Int.ofNat 1)=((mid+1:Nat):Int):=by rw [IntKind.wrap_i64];simp only [Int.ofNat_eq_natCast];omega
  refine AW.cond rfl (fun h1=>by cases h1) (fun _=>?_)
  refine jA ?_
  refine RG.ownK [(210,210),(201,201)] [(210,210),(201,201)] 201 201 (rowLen (g3)) (fun q=>hpt q) rfl rfl rfl rfl rfl rfl rfl rfl rfl rfl rfl rfl rfl ?_
  refine wH rfl ?_;refine jB ?_;refine wF ?_;refine wH rfl ?_;refine jB ?_
  refine AW.text ?_
  refine RG.runO ty_ok 0 [(117,.i .i64 ((mid - a:Nat):Int)),(120,.i .i64 ((b - mid:Nat):Int))] 400 rfl jD ?_
  refine jB ?_
  refine AW.text ?_
  refine RG.runO ty_ok 0 [(122,.i .i64 (((b - a) / 8:Nat):Int))] 400 rfl jD ?_
  refine jA ?_
  refine AW.cond rfl (fun h2=>?_) (fun h2=>?_)
  · have k2 : mid - a < b - mid := by
      have:=of_decide_eq_true h2
      omega
    rw [if_pos k2] at hG
    have ih:=IH (mid - a) (by omega) a mid X.lim d4 hn4 g1 (by omega) (Nat.le_refl _) (by omega) g4
    obtain ⟨l1,l2⟩:=Go.Sort.pdq_sorts (ltI l L) hS d4 a mid X.lim true true g1 (by omega) g4
    obtain ⟨l3,_⟩:=g6 _ l1 l2
    have hn5:=l1.1.trans hn4
    refine jA ?_
    refine RG.ownK [(210,210),(201,201)] [(210,210),(201,201)] 201 201 (rowLen (l1.1)) (fun q=>ih q) rfl rfl rfl rfl rfl rfl rfl rfl rfl rfl rfl rfl rfl ?_
    refine wH rfl ?_;refine jA ?_
    exact ⟨((mid+1,b,X.lim),(decide (mid - a>=(b - a) / 8),ap),Go.Sort.pdq (ltI l L) d4 a mid X.lim true true),⟨⟨⟨by show mid+1<=b;omega,hb,by show b - (mid+1)<=f;omega,by show X.lim<=1000;omega,hn5,l3⟩,hG⟩,by show b - (mid+1)<b - a;omega⟩,⟨Rn.rowIs rfl rfl rfl,Rn.is (congrArg (AV.i .i64) wI) rfl,Rn.is rfl rfl,Rn.is rfl rfl,Rn.fnO rfl rfl rfl,Rn.is (congrArg AV.b (decide_eq_decide.2 (by omega))) rfl,Rn.is rfl rfl,trivial⟩,io_end rfl rfl rfl rfl rfl (rfl) (rowFit hn5)⟩
  · have k2 : ¬ mid - a < b - mid := by
      have:=of_decide_eq_false h2
      omega
    rw [if_neg k2] at hG
    have ih:=IH (b - (mid+1)) (by omega) (mid+1) b X.lim d4 hn4 (by omega) hb (Nat.le_refl _) (by omega) g5
    obtain ⟨l1,l2⟩:=Go.Sort.pdq_sorts (ltI l L) hS d4 (mid+1) b X.lim true true (by omega) (by omega) g5
    obtain ⟨l3,_⟩:=g7 _ l1 l2
    have hn5:=l1.1.trans hn4
    refine jB ?_;refine wF ?_;refine wH rfl ?_;refine jB ?_
    refine AW.text ?_
    refine RG.runO ty_ok 0 [(142,.i .i64 ((mid+1:Nat):Int))] 400 rfl jD ?_
    refine RG.ownK [(210,210),(201,201)] [(210,210),(201,201)] 201 201 (rowLen (l1.1)) (fun q=>ih q) rfl rfl rfl rfl rfl rfl rfl rfl rfl rfl rfl rfl rfl ?_
    refine wH rfl ?_;refine jA ?_
    exact ⟨((a,mid,X.lim),(decide (b - mid>=(b - a) / 8),ap),Go.Sort.pdq (ltI l L) d4 (mid+1) b X.lim true true),⟨⟨⟨g1,by show mid<=n;omega,by show mid - a<=f;omega,by show X.lim<=1000;omega,hn5,l3⟩,hG⟩,by show mid - a<b - a;omega⟩,⟨Rn.rowIs rfl rfl rfl,Rn.is rfl rfl,Rn.is rfl rfl,Rn.is rfl rfl,Rn.fnO rfl rfl rfl,Rn.is (congrArg AV.b (decide_eq_decide.2 (by omega))) rfl,Rn.is rfl rfl,trivial⟩,io_end rfl rfl rfl rfl rfl (rfl) (rowFit hn5)⟩
end Go.Proofs.YtoaibdbehlcnfaaGreat.Sm
end
section
namespace Go.Proofs.YtoaibdbehlcnfaaGreat.Sm
open Go.RowKit
open Go.Sort (swp)
open Go.Sort (SWO Below PermIn SortedIn)
theorem ltI_iff {l:List Rl} {L:Nat} {x y:Fin (L+1)}:ltI l L x y=true↔prioAt l y.1<prioAt l x.1\/(prioAt l y.1=prioAt l x.1/\x.1<y.1):=by
  rw [ltI,decide_eq_true_eq,cmpR]
  generalize prioAt l y.1=p
  generalize prioAt l x.1=r
  by_cases h1:p<r
  · have e:cmpI p r = -1:=by rw [cmpI,if_pos h1]
    rw [e]
    exact ⟨fun _=>.inl h1,fun _=>by rw [orI,if_pos (by decide)];decide⟩
  by_cases h2:r<p
  · have e:cmpI p r=1:=by rw [cmpI,if_neg h1,if_pos h2]
    rw [e]
    exact ⟨fun h=>absurd h (by simp [orI]),fun h=>by omega⟩
  have e:cmpI p r=0:=by rw [cmpI,if_neg h1,if_neg h2]
  rw [e]
  have hpr:p=r:=by omega
  by_cases h3:x.1<y.1
  · have e:cmpI ((x.1:Nat):Int) ((y.1:Nat):Int) = -1:=by rw [cmpI,if_pos (by omega)]
    rw [e]
    exact ⟨fun _=>.inr ⟨hpr,h3⟩,fun _=>by decide⟩
  by_cases h4:y.1<x.1
  · have e:cmpI ((x.1:Nat):Int) ((y.1:Nat):Int)=1:=by rw [cmpI,if_neg (by omega),if_pos (by omega)]
    rw [e]
    exact ⟨fun h=>absurd h (by simp [orI]),fun h=>by omega⟩
  have e:cmpI ((x.1:Nat):Int) ((y.1:Nat):Int)=0:=by rw [cmpI,if_neg (by omega),if_neg (by omega)]
  rw [e]
  exact ⟨fun h=>absurd h (by simp [orI]),fun h=>by omega⟩
theorem ltI_no {l:List Rl} {L:Nat} {x y:Fin (L+1)}:ltI l L x y=false↔¬(prioAt l y.1<prioAt l x.1\/(prioAt l y.1=prioAt l x.1/\x.1<y.1)):=by
 rw [<- ltI_iff,Bool.not_eq_true]
theorem swo_ltI (l:List Rl) (L:Nat):SWO (ltI l L) where
 irrefl x:=by rw [ltI_no];omega
 trans x y z h1 h2:=by rw [ltI_iff] at *;omega
 ntrans x y z h1 h2:=by rw [ltI_no] at *;omega
theorem m_sortI (l:List Rl) (L:Nat) (hL:l.length=L+1) (n:Nat) (hl:n<=100000) (h256:n<256) (d:Array (Fin (L+1))) (hn:d.size=n) (q:Nat->Option (Nat × Nat)):MDoes Tryz.prog 299 [.row 201 0 0 n,.fn 300 [.own 210 0 0] []] (gl q [210,201] (ioB l n (d))) (.tup []) (gl q [210,201] (ioB l n (Go.Sort.pdq (ltI l L) d 0 n (Go.Sort.bitsLen n) true true))):=by
 refine MDoes.of_body Tryz.func299 rfl (by kernel_rfl) rfl rfl ?_
 have hr:=d_LenX (ofI64 ((n:Nat):Int)) (by rw [ofI_len h256];exact h256)
 rw [ofI_len h256] at hr
 have h8:=bitsLen_8 h256
 have hp:=m_pdq l L hL n hl h256 (swo_ltI l L) n 0 n (Go.Sort.bitsLen n) d hn (Nat.zero_le _) (Nat.le_refl _) (Nat.sub_le _ _) (by omega) (.inl rfl)
 obtain ⟨l1,_⟩:=Go.Sort.pdq_sorts (ltI l L) (swo_ltI l L) d 0 n (Go.Sort.bitsLen n) true true (Nat.zero_le _) (by omega) (.inl rfl)
 refine jA ?_
 refine RG.callS rfl rfl rfl rfl rfl hr rfl rfl ?_
 refine wH rfl ?_
 refine RG.ownK [(210,210),(201,201)] [(210,210),(201,201)] 201 201 (rowLen (l1.1)) (fun q=>hp q) rfl rfl rfl rfl rfl rfl rfl rfl rfl rfl rfl rfl rfl ?_
 refine wH rfl ?_;refine jA ?_
 exact retM0 rfl (.inl rfl) (io_end rfl rfl rfl rfl rfl (rfl) (rowFit (l1.1.trans hn)))
def idsA (L:Nat):Array (Fin (L+1)):=Array.ofFn id
theorem idsA_sz (L:Nat):(idsA L).size=L+1:=by simp [idsA]
theorem idsA_val (L:Nat):(idsA L).toList.map (fun x=>x.1)=List.range (L+1):=by
 apply List.ext_getElem
 ·simp [idsA]
 ·intro i h1 h2
  rw [List.getElem_map,Array.getElem_toList]
  simp only [idsA,Array.getElem_ofFn,List.getElem_range]
  rfl
theorem idsA_row (L:Nat):(List.range (L+1)).map numN=(idsA L).toList.map numF:=by
 rw [<- idsA_val,List.map_map];rfl
theorem extract_all {α:Type} (d:Array α) {n:Nat} (h:d.size=n):d.extract 0 n=d:=by
 subst h
 simp
theorem rowAllF {L:Nat} {D:Array (Fin (L+1))} (h:D.size=L+1):AV.sl (((D.toList.map numF).drop 0).take (L+1))=AV.sl (D.toList.map numF):=by
 rw [List.drop_zero,List.take_of_length_le (by rw [List.length_map,Array.length_toList,h];exact Nat.le_refl _)]
theorem look_any (l:List Rl) (hl:l.length<256):LookOk l:=by
  cases hlen:l.length with
  | zero =>
    obtain rfl:l=[]:=List.length_eq_zero_iff.1 hlen
    exact look_falls (fun k x y h=>by simp at h) (by decide)
  | succ L =>
  have hS:=swo_ltI l L
  obtain ⟨l1,l2⟩:=Go.Sort.pdq_sorts (ltI l L) hS (idsA L) 0 (L+1) (Go.Sort.bitsLen (L+1)) true true (Nat.zero_le _) (by rw [idsA_sz];exact Nat.le_refl _) (.inl rfl)
  have hm:=m_sortI l L hlen (L+1) (by omega) (by omega) (idsA L) (idsA_sz L)
  generalize Go.Sort.pdq (ltI l L) (idsA L) 0 (L+1) (Go.Sort.bitsLen (L+1)) true true=D at l1 l2 hm
  have hD:D.size=L+1:=l1.1.trans (idsA_sz L)
  refine ⟨D.toList.map (fun x=>x.1),?_,?_,?_⟩
  · have h3:=l1.2.2
    rw [extract_all _ hD,extract_all _ (idsA_sz L)] at h3
    rw [hlen,<- idsA_val]
    exact h3.map _
  · rw [List.pairwise_iff_getElem]
    intro i j hi hj hij
    rw [List.length_map,Array.length_toList] at hi hj
    have h4:=l2 i j (Nat.zero_le _) hij (by omega)
    rw [ltI_no] at h4
    rw [List.getElem_map,List.getElem_map,Array.getElem_toList,Array.getElem_toList,<- getElem!_pos D i hi,<- getElem!_pos D j hj]
    generalize D[i]! = x at h4
    generalize D[j]! = y at h4
    show prioAt l y.1<prioAt l x.1\/(prioAt l y.1=prioAt l x.1/\x.1<=y.1)
    omega
  rw [show (D.toList.map (fun x=>x.1)).map numN=D.toList.map numF by rw [List.map_map];rfl]
  refine PDoes.of_bodyN Tryz.func285 rfl (by kernel_rfl) rfl rfl ?_
  refine jB ?_;refine wF ?_;refine wH rfl ?_;refine jB ?_;refine wF ?_;refine wH rfl ?_;refine jB ?_
  refine AW.nilRow 40 0 3 1 [(0,.sl (l.map cRl)),(3,.own 7 0 0)] [(7,⟨0,some (.box 368 [.sl (l.map cRl),.row 40 0 0 0])⟩),(40,⟨0,some (.row 3 1 [])⟩)] ⟨.rn (Rn.is rfl rfl),.rn (Rn.ownIs rfl rfl rfl),trivial⟩ ⟨.boxL rfl ⟨RnN.is rfl rfl,.nil rfl,trivial⟩ rfl,.old (.row rfl rfl),trivial⟩ ?_
  refine jA ?_
  have hmx:l.length<=9223372036854775807:=by omega
  refine AW.loopL (ι:=Nat × List Nat) (fun i=>[(3,.own 7 0 0),(8,.sl (l.map cRl)),(9,.i .i64 (l.map cRl).length),(10,.i .i64 (i.1:Nat))]) (fun i=>[(7,⟨0,some (.box 368 [.sl (l.map cRl),.row 40 0 0 (i.2.map numN).length])⟩),(40,⟨0,some (.row 3 1 (i.2.map numN))⟩)]) (fun i=>i.1<=l.length/\i.2=List.range i.1) (fun i=>l.length - i.1) (0,[]) ⟨Nat.zero_le _,rfl⟩ jW ⟨.boxL rfl ⟨Rn.is rfl rfl,Rn.rowIs rfl rfl rfl,trivial⟩ rfl,.row rfl rfl,trivial⟩ fun i hi=>?_
  obtain ⟨k,out⟩:=i
  obtain ⟨hk,ho⟩:=hi
  simp only at hk ho
  refine jA ?_
  refine AW.cond rfl (fun h0=>?_) (fun h0=>?_)
  · have h:k<l.length:=by simpa using h0
    have hL:out.length<=100000000:=by rw [ho,List.length_range];omega
    refine jA ?_
    refine RG.opS rfl (op_app1 numN out k hL rfl rfl rfl rfl (tab_ok ty_ok rfl) rfl (tab_ok ty_ok rfl) rfl rfl ⟨_,rfl,rfl⟩ rfl rfl) rfl ?_;refine wH rfl ?_;refine jA ?_
    exact ⟨(k+1,out++[k]),⟨⟨h,by show out++[k]=List.range (k+1);rw [ho,List.range_succ]⟩,by show l.length - (k+1)<l.length - k;omega⟩,jV,⟨.boxL rfl ⟨Rn.is rfl rfl,Rn.rowIs rfl rfl rfl,trivial⟩ rfl,.row rfl rfl,trivial⟩⟩
  · have h:¬k<l.length:=by simpa using h0
    obtain rfl:k=l.length:=by omega
    rw [hlen] at ho
    have hrow:out.map numN=(idsA L).toList.map numF:=by rw [ho,idsA_row]
    have hlo:(out.map numN).length=L+1:=by rw [hrow,List.length_map,Array.length_toList,idsA_sz]
    refine AW.only [(3,.own 7 0 0)] [(7,⟨0,some (.box 368 [.sl (l.map cRl),.row 40 0 0 (L+1)])⟩),(40,⟨0,some (.row 3 1 ((idsA L).toList.map numF))⟩)] ⟨Rn.ownIs rfl rfl rfl,trivial⟩ ⟨.boxL rfl ⟨Rn.is rfl rfl,Rn.rowTIs (by rw [<- hlo]) rfl rfl (rowFit (idsA_sz L)),trivial⟩ rfl,.row rfl hrow,trivial⟩ ?_
    refine jA ?_
    refine AW.exit ?_;refine Eq.mpr (if_pos rfl) ?_;refine jA ?_
    refine RG.ownK [(7,210),(40,201)] [(210,7),(201,40)] 40 201 (rowLen l1.1) hm rfl rfl rfl rfl rfl rfl rfl rfl rfl rfl rfl rfl rfl ?_
    refine wH rfl ?_;refine jA ?_
    refine AW.ret (retQA ty_ok rfl rfl rfl ?_)
    exact rowAllF hD
end Go.Proofs.YtoaibdbehlcnfaaGreat.Sm
end
section
namespace Go.Proofs.YtoaibdbehlcnfaaGreat.Sm
open Go.RowKit
def lnCube:Cb:=⟨⟨0,1⟩,⟨0,1⟩⟩
def lnDrop:Rl:=⟨0,Cb.zero,⟨1,0,0,Cb.zero⟩⟩
def lnR0:List Rl:=[⟨1,lnCube,⟨3,1,0,Cb.zero⟩⟩,lnDrop]
def lnR1:List Rl:=[⟨1,lnCube,⟨2,1,0,Cb.zero⟩⟩,lnDrop]
def lnPorts:List (List Pt):=[[⟨1,0,0,0,0⟩,⟨2,0,1,0,1⟩],[⟨2,0,0,1,1⟩,⟨1,0,0,0,0⟩]]
def lineC:Cf:=⟨⟨lnPorts⟩,⟨1,[],[]⟩,[[lnR0],[lnR1]]⟩
def lnB:List (Nat × SB):=[(300,⟨0,some (.box 47 [.ref 301 0 (.sl 0 1 1),.ref 302 0 (.sl 0 1 1)])⟩),(301,⟨0,some (.box 48 [.row 24 0 0 2])⟩),(302,⟨0,some (.box 48 [.row 30 0 0 2])⟩),(24,⟨0,some (.row 40 12 (lnR0.map cRl))⟩),(30,⟨0,some (.row 40 12 (lnR1.map cRl))⟩),(12,⟨0,some (.row 115 1 (lnPorts.map cPts))⟩)]
def lnV:AV:=.agg [.row 12 0 0 2,.i .i64 1,.sl [],.sl [],.ref 300 0 (.sl 0 2 2)]
def RmL (π:List (Nat × Nat)) (σ σ':Sto):List AV->List AV->Prop
 | [],[]=>True
 | x::xs,y::ys=>(Rm π σ σ' x y/\y.one=true)/\RmL π σ σ' xs ys
 | _,_=>False
theorem RmL.ok {π:List (Nat × Nat)} {σ σ':Sto}:∀{xs ys:List AV},RmL π σ σ' xs ys->ys.length=xs.length/\∀(j:Nat) (x y:AV),xs[j]?=some x->ys[j]?=some y->Rm π σ σ' x y/\y.one=true
 | [],[],_=>⟨rfl,fun j x y h=>by simp at h⟩
 | x::xs,y::ys,h=>by
  obtain ⟨h1,h2⟩:=h
  obtain ⟨g1,g2⟩:=RmL.ok h2
  refine ⟨by rw [List.length_cons,List.length_cons,g1],fun j a b ha hb=>?_⟩
  cases j with
  | zero =>
   obtain rfl:x=a:=by simpa using ha
   obtain rfl:y=b:=by simpa using hb
   exact h1
  | succ j=>exact g2 j a b (by simpa using ha) (by simpa using hb)
 | [],y::ys,h=>h.elim
 | x::xs,[],h=>h.elim
theorem Rm.aggL {π:List (Nat × Nat)} {σ σ':Sto} {z:AV} {xs ys:List AV} (e:z = .agg xs) (h:RmL π σ σ' xs ys):Rm π σ σ' z (.agg ys):=by
 subst e
 obtain ⟨g1,g2⟩:=h.ok
 refine .agg g1 (fun j y hy=>?_) fun j x y hx hy=>(g2 j x y hx hy).1
 obtain ⟨x,hx⟩:∃x,xs[j]?=some x:=⟨_,List.getElem?_eq_getElem (by rw [<- g1];exact (List.getElem?_eq_some_iff.1 hy).1)⟩
 exact (g2 j x y hx hy).2
theorem Rm.refIs {π:List (Nat × Nat)} {σ σ':Sto} {x:AV} {id id' ep ep':Nat} {k:RK} {bd bd':Body} (e:x = .ref id ep k) (hm:lkP π id=some id') (h:σ id=⟨ep,some bd⟩) (h':σ' id'=⟨ep',some bd'⟩):Rm π σ σ' x (.ref id' ep' k):=e ▸ .ref (lkP_ok hm) h h'
theorem m_line15 (q:Nat->Option (Nat × Nat)):MDoes Tryz.prog 55 [] (gl q [] []) lnV (gl q [] lnB):=by
 refine MDoes.of_body Tryz.func55 rfl (by kernel_rfl) rfl rfl ?_
 refine jB ?_
 refine wF ?_;refine wH rfl ?_;refine jB ?_
 refine wF ?_;refine wH rfl ?_;refine jB ?_
 refine wF ?_;refine wH rfl ?_;refine jB ?_
 refine wF ?_;refine wH rfl ?_;refine jB ?_
 refine wF ?_;refine wH rfl ?_;refine jB ?_
 refine AW.text ?_
 refine RG.runG ty_ok 0 5 rfl ?_
 refine RG.opS rfl (op_buildRef (id:=301) rfl (tab_ok ty_ok rfl) rfl (tab_ok ty_ok rfl) rfl (by decide) rfl rfl rfl rfl rfl) rfl ?_
 refine RG.runG ty_ok 0 5 rfl ?_
 refine RG.opS rfl (op_buildRef (id:=302) rfl (tab_ok ty_ok rfl) rfl (tab_ok ty_ok rfl) rfl (by decide) rfl rfl rfl rfl rfl) rfl ?_
 refine RG.opS rfl (op_buildRef (id:=300) rfl (tab_ok ty_ok rfl) rfl (tab_ok ty_ok rfl) rfl (by decide) rfl rfl rfl rfl rfl) rfl ?_
 refine wH rfl ?_;refine jA ?_
 refine AW.ret (retMA ty_ok rfl rfl (Rm.aggL rfl ⟨⟨Rm.rowIs rfl rfl rfl rfl,rfl⟩,⟨Rm.is rfl rfl,rfl⟩,⟨.nil,rfl⟩,⟨.nil,rfl⟩,⟨Rm.refIs rfl rfl rfl rfl,rfl⟩,trivial⟩) ⟨.boxL rfl ⟨Rn.refIs rfl rfl rfl,Rn.refIs rfl rfl rfl,trivial⟩ rfl,.boxL rfl ⟨Rn.rowIs rfl rfl rfl,trivial⟩ rfl,.boxL rfl ⟨Rn.rowIs rfl rfl rfl,trivial⟩ rfl,.row rfl rfl,.row rfl rfl,.row rfl rfl,trivial⟩)
end Go.Proofs.YtoaibdbehlcnfaaGreat.Sm
end
section
namespace Go.Proofs.YtoaibdbehlcnfaaGreat.Sm
open Go.RowKit
theorem looks_of {c:Cf} (h:∀tb∈c.tables,∀l∈tb,Falls l/\l.length<=12):LooksOk c:=by
 intro n t
 have h0:LookOk []:=look_falls (fun k x y h=>by simp at h) (Nat.zero_le _)
 rw [tabOf,List.getD_eq_getElem?_getD,List.getD_eq_getElem?_getD]
 cases h1:c.tables[n]? with
 | none=>exact h0
 | some tb =>
  show LookOk (tb[t]?.getD [])
  cases h2:tb[t]? with
  | none=>exact h0
  | some l =>
   obtain ⟨g1,g2⟩:=h tb (List.mem_of_getElem? h1) l (List.mem_of_getElem? h2)
   exact look_falls g1 g2
theorem falls0:Falls lnR0:=by
 intro k x y hx hy
 match k with
 | 0 =>
  obtain rfl:=Option.some.inj hx
  obtain rfl:=Option.some.inj hy
  decide
 | k+1=>simp [lnR0] at hy
theorem falls1:Falls lnR1:=by
 intro k x y hx hy
 match k with
 | 0 =>
  obtain rfl:=Option.some.inj hx
  obtain rfl:=Option.some.inj hy
  decide
 | k+1=>simp [lnR1] at hy
theorem fallsT {l:List Rl}:Falls (l.take 1):=by
 intro k x y hx hy
 rw [List.getElem?_take] at hy
 rw [if_neg (by omega)] at hy
 cases hy
theorem lineC_looks:LooksOk lineC:=looks_of (by
 intro tb htb l hl
 simp only [lineC,List.mem_cons,List.not_mem_nil,or_false] at htb
 rcases htb with rfl | rfl
 ·simp only [List.mem_cons,List.not_mem_nil,or_false] at hl
  subst hl
  exact ⟨falls0,by decide⟩
 ·simp only [List.mem_cons,List.not_mem_nil,or_false] at hl
  subst hl
  exact ⟨falls1,by decide⟩)
def badC:Cf:=⟨⟨lnPorts⟩,⟨1,[],[]⟩,[[lnR0],[lnR1.take 1]]⟩
theorem badC_looks:LooksOk badC:=looks_of (by
 intro tb htb l hl
 simp only [badC,List.mem_cons,List.not_mem_nil,or_false] at htb
 rcases htb with rfl | rfl
 ·simp only [List.mem_cons,List.not_mem_nil,or_false] at hl
  subst hl
  exact ⟨falls0,by decide⟩
 ·simp only [List.mem_cons,List.not_mem_nil,or_false] at hl
  subst hl
  exact ⟨fallsT,by decide⟩)
end Go.Proofs.YtoaibdbehlcnfaaGreat.Sm
end
section
namespace Go.Proofs.YtoaibdbehlcnfaaGreat.Sm
open Go.RowKit
theorem small_of {c:Cf} (h:c.tables.all (fun t=>Nat.ble t.flatten.length 1000)=true):c.Small:=fun t ht=>by
 have:=Nat.le_of_ble_eq_true (List.all_eq_true.1 h t ht)
 omega
theorem d_JudgeC (c:Cf) (V:Int) (r:Vd) (hL:LooksOk c) (hs:c.tables.all (fun t=>Nat.ble t.flatten.length 1000)=true) (hl:Nat.blt (askedOf c V).length 20=true) (hr:judgeOf c V (insS (askedOf c V))=r):PDoes Tryz.prog 18 [.agg (cCf c),.i .i64 V] (.agg (cVd r)):=by
 subst hr
 exact d_Judge c V _ (fun _=>hL) (fun _=>small_of hs) (fun _=>insS_perm _) fun _ _=>sort_few _ (Nat.le_of_ble_eq_true hl)
theorem j15_bad:∃e h r,judgeOf badC 0 (insS (askedOf badC 0))=⟨2,e,1,⟨1,1⟩,h,r⟩:=⟨(judgeOf badC 0 (insS (askedOf badC 0))).e,(judgeOf badC 0 (insS (askedOf badC 0))).head,(judgeOf badC 0 (insS (askedOf badC 0))).run,by kernel_rfl⟩
theorem j15_line:judgeOf lineC 0 (insS (askedOf lineC 0))=vdE 1 0:=by kernel_rfl
theorem j15_neg:judgeOf lineC (-1) (insS (askedOf lineC (-1)))=vdE 3 4:=by kernel_rfl
theorem d_awake15:PDoes Tryz.prog 19 [] (.b true):=by
 refine PDoes.of_bodyN Tryz.func19 rfl (by kernel_rfl) rfl rfl ?_
 obtain ⟨be,bh,br,hb⟩:=j15_bad
 have hJb:=d_JudgeC badC 0 _ badC_looks rfl (by kernel_rfl) hb
 have hJl:=d_JudgeC lineC 0 _ lineC_looks rfl (by kernel_rfl) j15_line
 have hJn:=d_JudgeC lineC (-1) _ lineC_looks rfl (by kernel_rfl) j15_neg
 have hW:=d_JWrong lineC ⟨0,0⟩ ⟨4,⟨0,0⟩,[]⟩
 rw [show wrongJ lineC ⟨0,0⟩ ⟨4,⟨0,0⟩,[]⟩=2 by kernel_rfl] at hW
 clear hb
 refine jA ?_
 refine RG.ownN [] [(300,310),(301,311),(302,312),(24,324),(30,330),(12,313)] m_line15 rfl rfl rfl rfl rfl rfl rfl rfl rfl rfl ?_
 refine wH rfl ?_;refine jA ?_
 refine RG.ownN [] [(300,410),(301,411),(302,412),(24,424),(30,430),(12,413)] m_line15 rfl rfl rfl rfl rfl rfl rfl rfl rfl rfl ?_
 refine wH rfl ?_;refine jA ?_
 refine RG.opS rfl (op_indexRef 1 rfl (tab_ok ty_ok rfl) rfl (tab_ok ty_ok rfl) rfl rfl rfl rfl (by decide)) rfl ?_
 refine wH rfl ?_
 refine RG.opS rfl (op_indexRef 1 rfl (tab_ok ty_ok rfl) rfl (tab_ok ty_ok rfl) rfl rfl rfl rfl (by decide)) rfl ?_
 refine wH rfl ?_
 refine RG.opS rfl (op_indexRef 0 rfl (tab_ok ty_ok rfl) rfl (tab_ok ty_ok rfl) rfl rfl rfl rfl (by decide)) rfl ?_
 refine wH rfl ?_
 refine RG.opS rfl (op_sliceR (h:=1) rfl (tab_ok ty_ok rfl) rfl (tab_ok ty_ok rfl) rfl rfl .no (.at_ rfl) (by decide)) rfl ?_
 refine wH rfl ?_
 refine RG.opS rfl (op_indexRef 0 rfl (tab_ok ty_ok rfl) rfl (tab_ok ty_ok rfl) rfl rfl rfl rfl (by decide)) rfl ?_
 refine wH rfl ?_;refine jB ?_
 refine AW.freeze [310,311,312,324,330,313,410,411,412,424,430,413] [(1,.own 1 0 0),(2,.own 2 0 0)] [(1,⟨0,some (.box 31 (cCf lineC))⟩),(2,⟨0,some (.box 31 (cCf badC))⟩)] ⟨.rn (Rn.ownIs rfl rfl rfl),.rn (Rn.ownIs rfl rfl rfl),trivial⟩ ⟨.boxL rfl ⟨.fzA rfl rfl rfl,RnF.is rfl rfl,RnF.is rfl rfl,RnF.is rfl rfl,.fzA rfl rfl rfl,trivial⟩ rfl,.boxL rfl ⟨.fzA rfl rfl rfl,RnF.is rfl rfl,RnF.is rfl rfl,RnF.is rfl rfl,.fzA rfl rfl rfl,trivial⟩ rfl,trivial⟩ rfl ?_
 refine jA ?_
 refine RG.callMS rfl rfl rfl rfl rfl rfl hJb rfl ?_;refine wH rfl ?_;refine jA ?_
 refine RG.callMS rfl rfl rfl rfl rfl rfl hJl rfl ?_
 refine wH rfl ?_
 refine RG.opS rfl (op_eqG rfl ty_ok (by kernel_rfl) (by kernel_rfl) rfl rfl (eq_Sp ⟨1,1⟩ ⟨1,1⟩) (decide_eq_true rfl)) rfl ?_
 refine wH rfl ?_
 refine RG.callMS rfl rfl rfl rfl rfl rfl hJn rfl ?_
 refine wH rfl ?_
 refine RG.callS rfl rfl rfl rfl rfl hW rfl rfl ?_;refine wH rfl ?_;refine jA ?_
 refine AW.ret (retQA ty_ok rfl rfl rfl ?_)
 rfl
end Go.Proofs.YtoaibdbehlcnfaaGreat.Sm
end
section
namespace Go.Proofs.YtoaibdbehlcnfaaGreat.Sm
open Go.RowKit
theorem flat_mem {α:Type} {l:List α}:∀{ls:List (List α)},l∈ls->l.length<=ls.flatten.length
 | x::ls,h=>by
  rw [List.flatten_cons,List.length_append]
  rcases List.mem_cons.1 h with rfl | h
  ·omega
  ·have:=flat_mem h
   omega
theorem Cf.small {c:Cf} (h0:c.sound=0) (hL:c.Lens):c.Small:=by
 have hc:=Cf.ok h0
 intro t ht
 obtain ⟨n,hn⟩:=List.mem_iff_getElem?.1 ht
 have h3:=(tabSound_ok (hc.tabs n t hn)).2.1
 have h4:=flat_bound t (hL t ht)
 have h5:reachBytes*t.length<=reachBytes*3:=Nat.mul_le_mul_left _ h3
 have h6:reachBytes*3<=1000000000000000:=by decide
 omega
theorem looks_any {c:Cf} (h0:c.sound=0) (hL:c.Lens):LooksOk c:=by
 have hc:=Cf.ok h0
 have hs:=Cf.small h0 hL
 intro n t
 have hnil:LookOk []:=look_any [] (by decide)
 rw [tabOf,List.getD_eq_getElem?_getD,List.getD_eq_getElem?_getD]
 cases h1:c.tables[n]? with
 | none=>exact hnil
 | some tb =>
  show LookOk (tb[t]?.getD [])
  cases h2:tb[t]? with
  | none=>exact hnil
  | some l =>
   have h3:=tabSound_ok (hc.tabs n tb h1)
   have h4:=hs tb (List.mem_of_getElem? h1)
   have h5:=countT_len tb 0 (by omega)
   have h6:=flat_mem (List.mem_of_getElem? h2)
   have h7:((0:Nat):Int)=0:=rfl
   rw [h7] at h5
   exact look_any l (by omega)
def sortG (l:List Cb):List Cb:=(stable ltC l.toArray).toList
theorem sortG_perm (l:List Cb):(sortG l).Perm l:=stable_perm l
def judgeG (c:Cf) (V:Int):Vd:=judgeOf c V (sortG (askedOf c V))
theorem malE_sound {c:Cf} {V:Int} (h:malE c V=0):c.sound=0:=by
 rw [malE] at h
 split at h
 ·assumption
 ·exact h
theorem d_JudgeG (c:Cf) (V:Int) (hL:c.Lens):PDoes Tryz.prog 18 [.agg (cCf c),.i .i64 V] (.agg (cVd (judgeG c V))) :=
 d_Judge c V _ (fun h=>looks_any (malE_sound h) hL) (fun h=>Cf.small (malE_sound h) hL) (fun _=>sortG_perm _) fun _ h=>sort_any _ (by omega)
theorem overA_cases (c:Cf) (V:Int) (s:Sp):∀(l:List Atom),(overA c V s l=none/\∀a∈l,wrongJ c s (runOf c s a.head V 10800)=0) \/
  ∃a∈l,wrongJ c s (runOf c s a.head V 10800)≠0/\overA c V s l=some ⟨2,0,wrongJ c s (runOf c s a.head V 10800),s,a.head,runOf c s a.head V 10800⟩
 | []=>.inl ⟨rfl,fun a ha=>by cases ha⟩
 | a::l=>by
  rw [overA]
  by_cases h:wrongJ c s (runOf c s a.head V 10800)=0
  ·rw [decide_eq_true h,cond_true]
   rcases overA_cases c V s l with ⟨h1,h2⟩ | ⟨b,hb,h1,h2⟩
   ·refine .inl ⟨h1,fun b hb=>?_⟩
    rcases List.mem_cons.1 hb with rfl | hb
    ·exact h
    ·exact h2 b hb
   ·exact .inr ⟨b,List.mem_cons_of_mem _ hb,h1,h2⟩
  ·rw [decide_eq_false h,cond_false]
   exact .inr ⟨a,List.mem_cons_self,h,rfl⟩
theorem overE_cases (c:Cf) (V:Int) (l:List Atom):∀(ss:List Sp),(overE c V l ss=vdE 1 0/\∀s∈ss,∀a∈l,wrongJ c s (runOf c s a.head V 10800)=0) \/
  ∃s∈ss,∃a∈l,wrongJ c s (runOf c s a.head V 10800)≠0/\overE c V l ss=⟨2,0,wrongJ c s (runOf c s a.head V 10800),s,a.head,runOf c s a.head V 10800⟩
 | []=>.inl ⟨rfl,fun s hs=>by cases hs⟩
 | s::ss=>by
  rw [overE]
  rcases overA_cases c V s l with ⟨h1,h2⟩ | ⟨a,ha,h1,h2⟩
  ·rw [h1]
   rcases overE_cases c V l ss with ⟨h3,h4⟩ | ⟨s',hs',a,ha,h3,h4⟩
   ·refine .inl ⟨h3,fun s' hs'=>?_⟩
    rcases List.mem_cons.1 hs' with rfl | hs'
    ·exact h2
    ·exact h4 s' hs'
   ·exact .inr ⟨s',List.mem_cons_of_mem _ hs',a,ha,h3,h4⟩
  ·rw [h2]
   exact .inr ⟨s,List.mem_cons_self,a,ha,h1,rfl⟩
theorem wrongJ_at {c:Cf} (h0:c.sound=0) {s:Sp} (hs:s∈edges c.topo.ports) (r:Run):wrongJ c s r=wrongOf c s r:=by
 have h:=(edgeOf_iff (Cf.ok h0).topo).2 hs
 rw [wrongJ,if_pos ⟨h0,by omega⟩]
theorem malE_zero {c:Cf} (h0:c.sound=0) {v:Nat} (hv:v<=255):malE c (v:Int)=0:=by
 rw [malE,if_pos h0,if_neg (by omega)]
end Go.Proofs.YtoaibdbehlcnfaaGreat.Sm
end
section
namespace Go.Proofs.YtoaibdbehlcnfaaGreat.Sm
open Go.RowKit
def dropRl:Rl:=⟨0,Cb.zero,⟨1,0,0,Cb.zero⟩⟩
def drpL (none:Bool):List Rl:=bif none then [] else [dropRl]
def drpC (c:Cf) (none:Bool):Cf:=⟨c.topo,c.pol,c.tables.map fun t=>t.map fun _=>drpL none⟩
theorem drp_rules {c:Cf} {none:Bool}:∀r∈rulesOf (drpC c none),r=dropRl:=by
 intro r hr
 simp only [rulesOf,drpC,List.mem_flatten] at hr
 obtain ⟨l,⟨t,ht,hl⟩,hr⟩:=hr
 obtain ⟨t0,_,rfl⟩:=List.mem_map.1 ht
 obtain ⟨_,_,rfl⟩:=List.mem_map.1 hl
 cases none
 ·simpa [drpL] using hr
 ·simp [drpL] at hr
theorem addC_self (z:Cb):addC [z] z=[z]:=by simp [addC]
theorem addAll_same {z:Cb}:∀{xs:List Cb},(∀x∈xs,x=z)->addAll [z] xs=[z]
 | [],_=>rfl
 | x::xs,h=>by
  rw [addAll,h x List.mem_cons_self,addC_self,addAll_same fun y hy=>h y (List.mem_cons_of_mem _ hy)]
theorem before_zero (s:Cb):Cb.zero.before s=Cb.zero:=by
 simp [Cb.before,Cb.make,Cb.zero,Hd.zero,Hd.and,Hd.less]
theorem closeRow_zero:∀sets:List Cb,closeRow Cb.zero sets [Cb.zero]=[Cb.zero]
 | []=>rfl
 | s::sets=>by
  rw [closeRow,before_zero,addC_self]
  cases Cb.zero.hits s <;> exact closeRow_zero sets
theorem closeF_zero (sets:List Cb):closeF sets 501 0 [Cb.zero]=[Cb.zero]:=by
 rw [show (501:Nat)=499+1+1 from rfl,closeF,show (bif decide (0 < [Cb.zero].length) && decide ([Cb.zero].length<=500) then closeF sets (499+1) (0+1) (closeRow ([Cb.zero].getD 0 Cb.zero) sets [Cb.zero]) else [Cb.zero])=closeF sets (499+1) (0+1) (closeRow Cb.zero sets [Cb.zero]) from rfl,closeRow_zero,closeF]
 rfl
theorem closeF_nil (sets:List Cb):closeF sets 501 0 []=[]:=by
 rw [show (501:Nat)=500+1 from rfl,closeF]
 rfl
theorem drp_asked (c:Cf) (none:Bool) (V:Int):askedOf (drpC c none) V=[]\/askedOf (drpC c none) V=[Cb.zero]:=by
 rw [askedOf]
 have h:=@drp_rules c none
 generalize rulesOf (drpC c none)=rs at h
 cases rs with
 | nil=>exact .inl (closeF_nil _)
 | cons r rs =>
  refine .inr ?_
  have e:addAll [] ((r::rs).map Rl.mat)=[Cb.zero]:=by
   rw [List.map_cons,addAll,h r List.mem_cons_self]
   refine addAll_same fun x hx=>?_
   obtain ⟨r',hr',rfl⟩:=List.mem_map.1 hx
   rw [h r' (List.mem_cons_of_mem _ hr')]
  rw [e]
  exact closeF_zero _
theorem drp_atoms (c:Cf) (none:Bool) (V:Int):∃a l,sortG (askedOf (drpC c none) V)=askedOf (drpC c none) V/\(askedOf (drpC c none) V).length<=1/\atomsOf (askedOf (drpC c none) V)=(a::l,0):=by
 rcases drp_asked c none V with h | h
 ·rw [h]
  exact ⟨_,_,(sortG_perm []).eq_nil,Nat.zero_le _,rfl⟩
 ·rw [h]
  exact ⟨⟨[0],Hd.zero,[Cb.zero]⟩,[],List.perm_singleton.1 (sortG_perm [Cb.zero]),Nat.le_refl _,by kernel_rfl⟩
theorem drp_tab {c:Cf} {none:Bool} (hc:(drpC c none).Ok) {s:Sp} (hs:s∈edges c.topo.ports):tabOf (drpC c none) s.sw.toNat 0=drpL none:=by
 obtain ⟨n,r,a,p,h1,_,_,rfl⟩:=edges_mem.1 hs
 have hn:n<c.topo.ports.length:=(List.getElem?_eq_some_iff.1 h1).1
 obtain ⟨ts,h2,h3⟩:=(At.start hc (n:=n) hn).get
 have e:((n:Int)).toNat=n:=by omega
 show tabOf (drpC c none) ((n:Int)).toNat 0=_
 rw [e]
 rw [show (drpC c none).tables=c.tables.map fun t=>t.map fun _=>drpL none from rfl,List.getElem?_map] at h2
 obtain ⟨t0,_,rfl⟩:=Option.map_eq_some_iff.1 h2
 rw [List.getElem?_map] at h3
 obtain ⟨l0,_,h4⟩:=Option.map_eq_some_iff.1 h3
 exact h4.symm
theorem drp_run {c:Cf} {none:Bool} (hc:(drpC c none).Ok) {s:Sp} (hs:s∈edges c.topo.ports) (h:Hd) (V:Int):wrongOf (drpC c none) s (runOf (drpC c none) s h V 10800)=(if none=true then 1 else 0)/\(runOf (drpC c none) s h V 10800).hops.length=1:=by
 rw [runOf,show (10800:Nat)=10799+1 from rfl,goF,drp_tab hc hs]
 cases none
 ·have e:fnd (drpL false) (h.set (stampOf (drpC c false) s V))=some 0:=by
   show fnd [dropRl] _=_
   rw [fnd,fndF,show dropRl.mat=Cb.zero from rfl,Cb.has_zero]
   rfl
  rw [e]
  exact ⟨rfl,rfl⟩
 ·have e:fnd (drpL true) (h.set (stampOf (drpC c true) s V))=none:=rfl
  exact ⟨rfl,rfl⟩
theorem drp_judge (c : Cf) (none : Bool) (v : Nat) (hv : v <= 255) (h0 : (drpC c none).sound = 0) :
    if none=true/\0<(edges c.topo.ports).length then ∃s h r,judgeG (drpC c none) v=⟨2,0,1,s,h,r⟩/\r.hops.length=1 else judgeG (drpC c none) v=vdE 1 0:=by
  have hc:=Cf.ok h0
  obtain ⟨a,l,h1,h2,h3⟩:=drp_atoms c none v
  have e:judgeG (drpC c none) v=overE (drpC c none) (v:Int) (a::l) (edges c.topo.ports):=by
    rw [judgeG,judgeOf,decide_eq_true (malE_zero h0 hv),cond_true,h1,h3,decide_eq_false (show ¬(askedOf (drpC c none) (v:Int)).length>500 by omega),cond_false]
    show (bif decide ((0:Int)=0) then overOf (drpC c none) v (a::l) else _)=_
    rw [decide_eq_true rfl,cond_true,overOf,decide_eq_true (malE_zero h0 hv),cond_true]
    rfl
  rw [e]
  have hw:∀s∈edges c.topo.ports,∀h,wrongJ (drpC c none) s (runOf (drpC c none) s h v 10800)=(if none=true then 1 else 0)/\(runOf (drpC c none) s h v 10800).hops.length=1:=fun s hs h=>by
    rw [wrongJ_at h0 hs]
    exact drp_run hc hs h v
  generalize edges c.topo.ports=ed at hw
  cases none
  · rw [if_neg (by simp)]
    rcases overE_cases (drpC c false) v (a::l) ed with ⟨h4,_⟩ | ⟨s,hs,x,_,h5,_⟩
    · exact h4
    · exact absurd (hw s hs x.head).1 h5
  · cases ed with
    | nil=>rw [if_neg (by simp)];rfl
    | cons s ss =>
      rw [if_pos ⟨rfl,by simp⟩]
      rcases overE_cases (drpC c true) v (a::l) (s::ss) with ⟨_,h4⟩ | ⟨s',hs,x,_,h5,h6⟩
      · exact absurd ((hw s List.mem_cons_self a.head).1.symm.trans (h4 s List.mem_cons_self a List.mem_cons_self)) (by decide)
      · obtain ⟨q1,q2⟩:=hw s' hs x.head
        rw [h6,q1]
        exact ⟨_,_,_,rfl,q2⟩
end Go.Proofs.YtoaibdbehlcnfaaGreat.Sm
end
section
namespace Go.Proofs.YtoaibdbehlcnfaaGreat.Sm
open Go.RowKit
def tabX (T:List (List (List Rl))):List (List AV):=T.map fun t=>t.map fun l=>AV.sl (l.map cRl)
theorem tabX_pure (T:List (List (List Rl))):PureX (tabX T):=fun r hr x hx=>by
 obtain ⟨t,_,rfl⟩:=List.mem_map.1 hr
 obtain ⟨l,_,rfl⟩:=List.mem_map.1 hx
 exact ⟨rfl,rfl⟩
theorem cells_fits {c:Cf} (hf:c.Fit):Fits (cellsT c.tables):=fun tb htb=>by
 obtain ⟨t,ht,rfl⟩:=List.mem_map.1 htb
 have h1:=hf.rows t ht
 rw [reach_eq] at h1
 rw [List.length_map,gM_eq]
 omega
def cpyV (c:Cf):List AV:=[.sl (c.topo.ports.map cPts),.i .i64 c.pol.tenants,.sl (c.pol.peers.map cPr),.sl (c.pol.ways.map cWy)]
theorem d_Copy2 (c:Cf) (hf:c.Fit):GDoes Tryz.prog 16 [.agg (cCf c)] (.agg (cpyV c++[.row 1000 1 0 c.tables.length])) (lkF [] (xF 47 48 (tabX c.tables))):=by
 obtain ⟨l,hd,hB⟩:=gF_frz (e1:=47) (e2:=48) (e3:=40) (m:=12) (cells_fits hf)
 have e:(cellsT c.tables).map (fun tb=>tb.map AV.sl)=tabX c.tables:=by
  rw [cellsT,tabX,List.map_map]
  refine List.map_congr_left fun t _=>?_
  show (t.map fun l=>l.map cRl).map AV.sl=_
  rw [List.map_map];rfl
 rw [e] at hd hB
 refine (d_Copy c hf).freeze l (.rn (Rn.aggL rfl ⟨rI rfl rfl,rI rfl rfl,rI rfl rfl,rI rfl rfl,.rowN (lkF_hi _ _ 0) (lkF_hi _ _ 0) ?_,trivial⟩ rfl)) hB hd
 rw [xE_len,tE_len,tabX,cellsT,List.length_map,List.length_map]
def drpD (q:Bool):AV:=bif q then .raw (.slice none 0 0) else .sl [cRl dropRl]
theorem drpD_pure (q:Bool):(drpD q).pu1=true/\(drpD q).one=true:=by cases q <;> exact ⟨rfl,rfl⟩
def lsA (l:List Rl):AV:=.sl (l.map cRl)
def rowA (t:List (List Rl)):List AV:=t.map lsA
def rowD (q:Bool) (t:List (List Rl)):List AV:=t.map fun _=>drpD q
theorem drp_pureX (q:Bool) (T:List (List (List Rl))) (n:Nat):PureX (mix (rowD q) rowA T n) :=
 mix_all (fun t _ x hx=>by obtain ⟨_,_,rfl⟩:=List.mem_map.1 hx;exact drpD_pure q) (fun t _ x hx=>by obtain ⟨_,_,rfl⟩:=List.mem_map.1 hx;exact ⟨rfl,rfl⟩) n
theorem JudgeDrops_d (c:Cf) (v:UInt8) (q:Bool) (hf:c.Fit):PDoes Tryz.prog 4 [.agg (cCf c),.y v,.b q] (.b true):=by
  refine PDoes.of_bodyN Tryz.func4 rfl (by kernel_rfl) rfl rfl ?_
  obtain ⟨ids,hids⟩:=xF_ids (e1:=47) (e2:=48) (tabX_pure c.tables) (xs:=cpyV c) (n:=c.tables.length) rfl
  refine jB ?_
  refine wF ?_;refine wH rfl ?_;refine jB ?_
  refine AW.text ?_
  refine wH rfl ?_
  refine RG.callG rfl rfl rfl rfl rfl (d_Copy2 c hf) hids (fun id h=>by obtain ⟨k,rfl⟩:∃k,id=k+1000:=⟨id - 1000,by omega⟩;rfl) rfl ?_
  refine wH rfl ?_;refine jA ?_
  have eX:tabX c.tables=mix (rowD q) rowA c.tables 0:=(mix_zero (rowD q) rowA c.tables).symm
  rw [eX]
  have hLf:=hf.tabs
  have hRf:=hf.rows
  rw [reach_eq] at hLf hRf
  refine AW.loopR (ι:=Nat) (fun n=>⟨lkT [(1,.y v),(2,.b q),(6,.b false),(7,.own 7 0 0),(8,.i .i64 (n:Nat))],lkF [(7,⟨0,some (.box 31 [.sl (c.topo.ports.map cPts),.i .i64 c.pol.tenants,.sl (c.pol.peers.map cPr),.sl (c.pol.ways.map cWy),.row 1000 1 0 (xE (mix (rowD q) rowA c.tables n)).length])⟩)] (xF 47 48 (mix (rowD q) rowA c.tables n))⟩) (fun n=>n<=c.tables.length) (fun n=>c.tables.length - n)
    (Rt.at 0 (Nat.zero_le _) (Rt.xgrid (drp_pureX q c.tables 0) (fun k=>rfl) ⟨rI rfl rfl,rI rfl rfl,rI rfl rfl,rO rfl rfl rfl,rI rfl rfl,trivial⟩ ⟨.boxL rfl ⟨rI rfl rfl,rI rfl rfl,rI rfl rfl,rI rfl rfl,.rowNIs (congrArg (AV.row 1000 _ 0) (show c.tables.length=(xE (mix (rowD q) rowA c.tables 0)).length by rw [xE_len,mix_len])) rfl rfl rfl,trivial⟩ rfl,trivial⟩)) fun n hn=>?_
  have hX:=drp_pureX q c.tables n
  have hXl:(xE (mix (rowD q) rowA c.tables n)).length=c.tables.length:=by rw [xE_len,mix_len]
  have hXg:∀h:n<c.tables.length,(mix (rowD q) rowA c.tables n)[n]?=some (rowA c.tables[n]):=fun h=>mix_get _ _ _ h
  have hXn:∀h:n<c.tables.length,(mix (rowD q) rowA c.tables n).set n (rowD q c.tables[n])=mix (rowD q) rowA c.tables (n+1):=fun h=>mix_next _ _ _ h
  generalize hXe:mix (rowD q) rowA c.tables n=X at hX hXl hXg hXn
  refine jB ?_
  refine AW.text ?_
  refine wH rfl ?_
  refine RG.opS rfl (op_lenE rfl rfl rfl rfl (tab_ok ty_ok rfl) rfl rfl rfl) rfl ?_
  refine wH rfl ?_;refine jA ?_
  refine AW.cond rfl (fun h1=>?_) (fun h1=>?_)
  · have k : n < c.tables.length := by
      have:=of_decide_eq_true h1
      rw [hXl] at this
      omega
    have hXg:=hXg k
    have hXn:=hXn k
    have hrow:=hRf c.tables[n] (List.getElem_mem k)
    generalize c.tables[n]=t at hXg hXn hrow
    have hnl:n<(xE X).length:=by rw [hXl];exact k
    have hel:((xE X).set n (.row 5 1 0 (rowA t).length))[n]?=some (.row 5 1 0 (rowA t).length):=by rw [List.getElem?_set,if_pos rfl,if_pos hnl]
    refine jB ?_
    refine wF ?_;refine wH rfl ?_;refine jB ?_
    refine AW.loopR (ι:=Nat) (fun i=>⟨lkT [(1,.y v),(2,.b q),(6,.b false),(7,.own 7 0 0),(8,.i .i64 (n:Nat)),(9,.i .i64 (i:Nat))],lkF ((5,⟨1,some (.nest 48 (mix (fun _=>drpD q) lsA t i))⟩)::[(7,⟨0,some (.box 31 [.sl (c.topo.ports.map cPts),.i .i64 c.pol.tenants,.sl (c.pol.peers.map cPr),.sl (c.pol.ways.map cWy),.row 1000 1 0 (xE X).length])⟩)]) (xFh 47 48 X n 5 (rowA t).length)⟩) (fun i=>i<=t.length) (fun i=>t.length - i)
      (Rt.at 0 (Nat.zero_le _) (by
        rw [mix_zero]
        exact Rt.trans (Rt.xgrid (T:=[(1,.y v),(2,.b q),(6,.b false),(7,.own 7 0 0),(8,.i .i64 (n:Nat)),(9,.i .i64 (0:Nat))]) (B:=[(7,⟨0,some (.box 31 [.sl (c.topo.ports.map cPts),.i .i64 c.pol.tenants,.sl (c.pol.peers.map cPr),.sl (c.pol.ways.map cWy),.row 1000 1 0 (xE X).length])⟩)]) hX (fun k=>rfl) ⟨rI rfl rfl,rI rfl rfl,rI rfl rfl,rO rfl rfl rfl,rI rfl rfl,rI rfl rfl,trivial⟩ ⟨.boxL rfl ⟨rI rfl rfl,rI rfl rfl,rI rfl rfl,rI rfl rfl,.rowNIs rfl rfl rfl rfl,trivial⟩ rfl,trivial⟩) fun _ _=>Rt.focusX rfl hX hXg rfl rfl rfl)) fun i hi=>?_
    have hRl:(mix (fun _=>drpD q) lsA t i).length=t.length:=mix_len _ _ _ _
    have hRn:∀h:i<t.length,(mix (fun _=>drpD q) lsA t i).set i (drpD q)=mix (fun _=>drpD q) lsA t (i+1):=fun h=>mix_next (fun _=>drpD q) lsA t h
    have hRp:∀x∈mix (fun _=>drpD q) lsA t i,x.pu1=true/\x.one=true:=mix_all (p:=fun x:AV=>x.pu1=true/\x.one=true) (fun _ _=>drpD_pure q) (fun _ _=>⟨rfl,rfl⟩) i
    have hlA:(rowA t).length=t.length:=List.length_map ..
    generalize hRe:mix (fun _=>drpD q) lsA t i=R at hRl hRn hRp
    refine jB ?_
    refine AW.text ?_
    refine wH rfl ?_
    refine RG.opS rfl (op_ixE (k:=n) rfl (tab_ok ty_ok rfl) rfl (tab_ok ty_ok rfl) rfl rfl rfl hnl rfl) rfl ?_
    refine RG.opS rfl (op_ldE rfl (tab_ok ty_ok rfl) rfl rfl rfl hel) rfl ?_
    refine RG.opS rfl (op_lenE rfl rfl rfl rfl (tab_ok ty_ok rfl) rfl rfl rfl) rfl ?_
    refine wH rfl ?_;refine jA ?_
    refine AW.cond rfl (fun h2=>?_) (fun h2=>?_)
    · have k2 : i < t.length := by
        have:=of_decide_eq_true h2
        rw [hlA] at this
        omega
      have hRn:=hRn k2
      have hil:i<(rowA t).length:=by rw [hlA];exact k2
      refine jB ?_
      cases q with
      | true =>
        refine AW.text ?_
        refine wH rfl ?_
        refine RG.opS rfl (op_ixE (k:=n) rfl (tab_ok ty_ok rfl) rfl (tab_ok ty_ok rfl) rfl rfl rfl hnl rfl) rfl ?_
        refine RG.opS rfl (op_ldE rfl (tab_ok ty_ok rfl) rfl rfl rfl hel) rfl ?_
        refine wH rfl ?_
        refine RG.opS rfl (op_ixE (k:=i) rfl (tab_ok ty_ok rfl) rfl (tab_ok ty_ok rfl) rfl rfl rfl hil rfl) rfl ?_
        refine RG.opS rfl (op_stN rfl (tab_ok ty_ok rfl) rfl rfl (by rw [hRl];exact k2) rfl rfl rfl rfl) rfl ?_
        refine wH rfl ?_;refine jA ?_
        refine AW.condF rfl ?_;refine jA ?_
        refine Rt.at (i+1) ⟨k2,by omega⟩ ?_
        rw [<- hRn]
        exact Rt.xgridh [] rfl rfl hX (fun k=>rfl) rfl rfl (fun x hx=>(set_pure hRp (drpD_pure true) x hx).2) (same_rnF (set_pure hRp (drpD_pure true))) ⟨.is rfl rfl,.is rfl rfl,.is rfl rfl,.rn (rO rfl rfl rfl),.is rfl rfl,.is (i64_next k2 (by omega)) rfl,trivial⟩ ⟨.old (.boxL rfl ⟨.is rfl rfl,.is rfl rfl,.is rfl rfl,.is rfl rfl,.rn (.rowNIs rfl rfl rfl rfl),trivial⟩ rfl),trivial⟩ rfl
      | false =>
        refine AW.text ?_
        refine wH rfl ?_
        refine RG.opS rfl (op_ixE (k:=n) rfl (tab_ok ty_ok rfl) rfl (tab_ok ty_ok rfl) rfl rfl rfl hnl rfl) rfl ?_
        refine RG.opS rfl (op_ldE rfl (tab_ok ty_ok rfl) rfl rfl rfl hel) rfl ?_
        refine wH rfl ?_
        refine RG.opS rfl (op_ixE (k:=i) rfl (tab_ok ty_ok rfl) rfl (tab_ok ty_ok rfl) rfl rfl rfl hil rfl) rfl ?_
        refine RG.opS rfl (op_stN rfl (tab_ok ty_ok rfl) rfl rfl (by rw [hRl];exact k2) rfl rfl rfl rfl) rfl ?_
        refine wH rfl ?_;refine jA ?_
        refine AW.condT rfl ?_;refine jB ?_
        refine AW.text ?_
        refine wH rfl ?_
        refine RG.opS rfl (op_ixE (k:=n) rfl (tab_ok ty_ok rfl) rfl (tab_ok ty_ok rfl) rfl rfl rfl hnl rfl) rfl ?_
        refine RG.opS rfl (op_ldE rfl (tab_ok ty_ok rfl) rfl rfl rfl hel) rfl ?_
        refine wH rfl ?_
        refine RG.opS rfl (op_ixE (k:=i) rfl (tab_ok ty_ok rfl) rfl (tab_ok ty_ok rfl) rfl rfl rfl hil rfl) rfl ?_
        refine RG.opS rfl (op_stN rfl (tab_ok ty_ok rfl) rfl rfl (by rw [List.length_set,hRl];exact k2) rfl rfl rfl rfl) rfl ?_
        refine wH rfl ?_;refine jA ?_
        refine Rt.at (i+1) ⟨k2,by omega⟩ ?_
        rw [<- hRn]
        refine Rt.xgridh [47] rfl rfl hX (fun k=>rfl) rfl (by simp) (fun x hx=>(set_pure hRp (drpD_pure false) x hx).2) (fun j x x' h h'=>?_) ⟨.is rfl rfl,.is rfl rfl,.is rfl rfl,.rn (rO rfl rfl rfl),.is rfl rfl,.is (i64_next k2 (by omega)) rfl,trivial⟩ ⟨.old (.boxL rfl ⟨.is rfl rfl,.is rfl rfl,.is rfl rfl,.is rfl rfl,.rn (.rowNIs rfl rfl rfl rfl),trivial⟩ rfl),trivial⟩ rfl
        rw [List.set_set] at h
        rcases set_get h with ⟨rfl,rfl⟩ | ⟨hne,h⟩
        · rcases set_get h' with ⟨_,rfl⟩ | ⟨hne,h'⟩
          · exact .fz (.row rfl rfl) fun i hi=>List.mem_singleton.2 (List.mem_singleton.1 hi)
          · exact absurd rfl hne
        · rcases set_get h' with ⟨e,_⟩ | ⟨_,h'⟩
          · exact absurd e hne
          · exact same_rnF hRp j x x' h h'
    · have k2 : ¬ i < t.length := by
        have:=of_decide_eq_false h2
        rw [hlA] at this
        omega
      have ei:i=t.length:=by omega
      rw [ei,mix_end] at hRe
      clear hRn h2 k2
      refine jB ?_
      refine AW.exit ?_;refine Eq.mpr (if_pos rfl) ?_;refine jB ?_
      refine wF ?_;refine wH rfl ?_;refine jB ?_
      refine Rt.at (n+1) ⟨k,by omega⟩ ?_
      have eL:(xE X).length=(xE (X.set n (rowD q t))).length:=by rw [xE_len,xE_len,List.length_set]
      rw [<- hXn]
      subst hRe
      exact Rt.trans (Rt.xgridh (T:=[(1,.y v),(2,.b q),(6,.b false),(7,.own 7 0 0),(8,.i .i64 ((n+1:Nat):Int))]) (B:=[(7,⟨0,some (.box 31 [.sl (c.topo.ports.map cPts),.i .i64 c.pol.tenants,.sl (c.pol.peers.map cPr),.sl (c.pol.ways.map cWy),.row 1000 1 0 (xE (X.set n (rowD q t))).length])⟩)]) [] rfl rfl hX (fun k=>rfl) rfl rfl (fun x hx=>(hRp x hx).2) (same_rnF hRp) ⟨.is rfl rfl,.is rfl rfl,.is rfl rfl,.rn (rO rfl rfl rfl),.is (i64_next k (by omega)) rfl,trivial⟩ ⟨.old (.boxL rfl ⟨.is rfl rfl,.is rfl rfl,.is rfl rfl,.is rfl rfl,.rn (.rowNIs (congrArg (AV.row 1000 _ 0) eL) rfl rfl rfl),trivial⟩ rfl),trivial⟩ rfl) fun _ _=>Rt.unfocusX rfl hX hXg (by rw [hRl,hlA]) hRp rfl rfl rfl
  · have k : ¬ n < c.tables.length := by
      have:=of_decide_eq_false h1
      rw [hXl] at this
      omega
    have en:n=c.tables.length:=by omega
    rw [en,mix_end] at hXe
    clear hXn hXg h1 k
    have eT:(X.map fun r=>[AV.sl (r.map fun x=>[AV.sl ((drpL q).map cRl)])])=(drpC c q).tables.map cTab:=by
      rw [<- hXe]
      simp only [drpC,List.map_map]
      refine List.map_congr_left fun t _=>?_
      simp only [Function.comp_apply,rowD,cTab,List.map_map]
      rfl
    have hfz:∀(σ:Sto),∀r∈X,∀x∈r,Fz σ x (.sl ((drpL q).map cRl)) []:=fun σ r hr x hx=>by
      rw [<- hXe] at hr
      obtain ⟨t,_,rfl⟩:=List.mem_map.1 hr
      obtain ⟨_,_,rfl⟩:=List.mem_map.1 hx
      cases q
      · exact .sl _
      · exact .nils
    have hLs:(drpC c q).Lens:=fun t ht l hl=>by
      obtain ⟨t0,_,rfl⟩:=List.mem_map.1 ht
      obtain ⟨_,_,rfl⟩:=List.mem_map.1 hl
      rw [reach_eq]
      cases q
      · exact Nat.le_of_ble_eq_true rfl
      · exact Nat.zero_le _
    clear hXe
    refine jB ?_
    refine AW.exit ?_;refine Eq.mpr (if_pos rfl) ?_;refine jB ?_
    refine AW.retold (s':=stL [(1,.y v),(2,.b q),(6,.b false),(7,.own 7 0 0)] [(7,⟨0,some (.box 31 (cCf (drpC c q)))⟩)]) ?_ ?_
    · obtain ⟨l,g1,g2⟩:=xF_fz (σ:=lkF [(7,⟨0,some (.box 31 [.sl (c.topo.ports.map cPts),.i .i64 c.pol.tenants,.sl (c.pol.peers.map cPr),.sl (c.pol.ways.map cWy),.row 1000 1 0 (xE X).length])⟩)] (xF 47 48 X)) (fun k=>lkF_hi _ _ k) (fun _=>.sl ((drpL q).map cRl)) (hfz _)
      rw [eT] at g1
      exact Rt.freezeB l rfl ⟨.is rfl rfl,.is rfl rfl,.is rfl rfl,.rn (rO rfl rfl rfl),trivial⟩ ⟨.old (.boxL rfl ⟨.is rfl rfl,.is rfl rfl,.is rfl rfl,.is rfl rfl,.fz g1 fun i hi=>hi,trivial⟩ rfl),trivial⟩ g2
    clear eT hfz hX hXl
    have hv:v.toNat<=255:=by have:=v.toNat_lt;omega
    have hw:IntKind.i64.wrap ((v.toNat:Nat):Int)=((v.toNat:Nat):Int):=by rw [IntKind.wrap_i64];omega
    have hJ:PDoes Tryz.prog 18 [.agg (cCf (drpC c q)),.i .i64 (IntKind.i64.wrap ((v.toNat:Nat):Int))] (.agg (cVd (judgeG (drpC c q) ((v.toNat:Nat):Int)))):=by
      rw [hw];exact d_JudgeG _ _ hLs
    have hS:=d_rCSound (drpC c q)
    by_cases h0:(drpC c q).sound=0
    rotate_left
    · have e:judgeG (drpC c q) ((v.toNat:Nat):Int)=vdE 3 (drpC c q).sound:=by rw [judgeG,judgeOf,malE,if_neg h0,decide_eq_false h0];rfl
      rw [e] at hJ
      generalize (drpC c q).sound=m at h0 hJ hS
      refine jB ?_
      refine AW.text ?_
      refine wH rfl ?_
      refine RG.callMS rfl rfl rfl rfl rfl rfl hJ rfl ?_;refine wH rfl ?_;refine jA ?_
      refine RG.callS rfl rfl rfl rfl rfl hS rfl rfl ?_;refine wH rfl ?_;refine jA ?_
      refine AW.cond rfl (fun k=>?_) (fun k=>?_)
      · refine jA ?_
        refine RG.callS rfl rfl rfl rfl rfl d_awake15 rfl rfl ?_;refine wH rfl ?_;refine jA ?_
        refine AW.ret (retQA ty_ok rfl rfl rfl ?_)
        rfl
      · exact absurd (by simpa using k) h0
    have hd:=drp_judge c q v.toNat hv h0
    rw [h0] at hS
    have hc:=Cf.ok h0
    have hE:=d_rEdges c.topo.ports hc.topo
    generalize hed:edges c.topo.ports=ed at hd hE
    cases q
    · rw [if_neg (by simp)] at hd
      rw [hd] at hJ
      refine jB ?_
      refine AW.text ?_
      refine wH rfl ?_
      refine RG.callMS rfl rfl rfl rfl rfl rfl hJ rfl ?_;refine wH rfl ?_;refine jA ?_
      refine RG.callS rfl rfl rfl rfl rfl hS rfl rfl ?_;refine wH rfl ?_;refine jA ?_
      refine AW.condF rfl ?_;refine jA ?_
      refine AW.condF rfl ?_;refine jA ?_
      refine RG.callS rfl rfl rfl rfl rfl d_awake15 rfl rfl ?_;refine wH rfl ?_;refine jA ?_
      refine AW.ret (retQA ty_ok rfl rfl rfl ?_)
      rfl
    · by_cases h1:0<ed.length
      · rw [if_pos ⟨rfl,h1⟩] at hd
        obtain ⟨s,h,r,hd,hr⟩:=hd
        rw [hd] at hJ
        refine jB ?_
        refine AW.text ?_
        refine wH rfl ?_
        refine RG.callMS rfl rfl rfl rfl rfl rfl hJ rfl ?_;refine wH rfl ?_;refine jA ?_
        refine RG.callS rfl rfl rfl rfl rfl hS rfl rfl ?_;refine wH rfl ?_;refine jA ?_
        refine AW.condF rfl ?_;refine jB ?_
        refine AW.text ?_
        refine wH rfl ?_
        refine RG.callMS rfl rfl rfl rfl rfl rfl hE rfl ?_
        have e1:decide (((ed.map cSp).length:Int)>0)=true:=decide_eq_true (by rw [List.length_map];omega)
        have e2:decide (((r.hops.map cHop).length:Int)=1)=true:=decide_eq_true (by rw [List.length_map,hr];rfl)
        refine RG.runO ty_ok 0 [(68,.b true)] 400 rfl ⟨congrArg AV.b e1,trivial⟩ ?_
        refine jB ?_;refine AW.condT rfl ?_;refine jB ?_
        refine AW.text ?_
        refine wH rfl ?_
        refine RG.callS rfl rfl rfl rfl rfl d_awake15 rfl rfl ?_
        refine RG.runO ty_ok 0 [(86,.b true)] 400 rfl ⟨congrArg AV.b e2,trivial⟩ ?_
        refine jB ?_
        refine AW.ret (retQA ty_ok rfl rfl rfl ?_)
        rfl
      · rw [if_neg (by simp [h1])] at hd
        rw [hd] at hJ
        refine jB ?_
        refine AW.text ?_
        refine wH rfl ?_
        refine RG.callMS rfl rfl rfl rfl rfl rfl hJ rfl ?_;refine wH rfl ?_;refine jA ?_
        refine RG.callS rfl rfl rfl rfl rfl hS rfl rfl ?_;refine wH rfl ?_;refine jA ?_
        refine AW.condF rfl ?_;refine jB ?_
        refine AW.text ?_
        refine wH rfl ?_
        refine RG.callMS rfl rfl rfl rfl rfl rfl hE rfl ?_
        have e1:decide (((ed.map cSp).length:Int)>0)=false:=decide_eq_false (by rw [List.length_map];omega)
        refine RG.runO ty_ok 0 [(68,.b false)] 400 rfl ⟨congrArg AV.b e1,trivial⟩ ?_
        refine jB ?_;refine AW.condF rfl ?_;refine jA ?_
        refine RG.callS rfl rfl rfl rfl rfl d_awake15 rfl rfl ?_;refine wH rfl ?_;refine jA ?_
        refine AW.ret (retQA ty_ok rfl rfl rfl ?_)
        rfl
end Go.Proofs.YtoaibdbehlcnfaaGreat.Sm
end
section
namespace Go.Proofs.YtoaibdbehlcnfaaGreat.Sm
open Go.RowKit Go.WideShapes Go.ChangeShapes Go.Deep
theorem RdZ.sliceB {α:Type} {P:Program} {t e:TypeId} {R:Rep α} {Q:α->Prop} (hR:RdZ P e R Q) (ht:P.underlying t=some (.slice e)) (hn:P.cellsOf e=R.n) (h0:0<R.n) (hb:0<P.bytesOf e):RdZ P t R.slice (fun l=>l.length*P.bytesOf e<=reachBytes/\∀a∈l,Q a):=by
  intro H enc w base spare held fuel cs x hx hz
  rcases open_slice ht hx with ⟨rfl,_⟩ | ⟨a,len,cap,m,n,D,Pl,rfl,_,hlc,hcm,hm,rfl,hel⟩
  · exact ⟨[],⟨_,rfl,SliceAt.nil _ _ _⟩,by simp,fun a ha=>by cases ha⟩
  · have hlm:len<=m:=by rw [hm];split <;> omega
    simp only [DataW.weights,ht] at hz
    have hlen:len*P.bytesOf e<=reachBytes:=by
      have h1:=hz _ List.mem_cons_self
      rw [List.length_map,List.length_range] at h1
      have h2:len*P.bytesOf e<=(len+(List.map (fun j=>D (len+j)) (List.range (m - len))).length)*P.bytesOf e:=Nat.mul_le_mul_right _ (Nat.le_add_right _ _)
      omega
    have hzi:∀i,i<len->∀k∈(D i).weights P e,k<=reachBytes:=fun i hi k hk=>by
      refine hz k (List.mem_cons_of_mem _ (List.mem_append_left _ ?_))
      exact weights_all (List.mem_map_of_mem (List.mem_range.2 hi)) k hk
    by_cases hp:0<len
    · have hspot : a = ⟨a.block, a.off, none⟩ /\ a.block < w.heap.size := by
        obtain ⟨cs',hc,_⟩:=hel 0 (by omega)
        obtain ⟨_,hl,hat⟩:=World.cells?_some hc
        have h1:=hat 0 (by rw [hn];exact h0)
        have e:(a.add (0*P.cellsOf e)).add 0=a:=by simp [Addr.add]
        rw [e,List.getElem?_eq_getElem (by rw [hl,hn];exact h0)] at h1
        refine ⟨?_,World.block_lt_of_cell? w a h1⟩
        unfold World.cell? at h1
        split at h1
        · split at h1
          · cases h1
          · rename_i hs
            obtain ⟨ab,ao,asp⟩:=a
            cases asp with
            | none=>rfl
            | some k=>simp at hs
        · cases h1
      obtain ⟨xs,cells,h1,h2,h3⟩:=all2_collect (r:=fun a c=>R.rel w (fun b=>b<w.heap.size) a c/\Q a) (n:=R.n) (fun _ _ h=>R.len h.1) w a.block a.off len fun i hi=>by
        obtain ⟨cs',hc,ht'⟩:=hel i (by omega)
        obtain ⟨y,hy,hq⟩:=hR H enc w base spare held n cs' _ ht' (hzi i hi)
        obtain ⟨_,hl,hat⟩:=World.cells?_some hc
        refine ⟨y,cs',⟨hy,hq⟩,fun j u hu=>?_⟩
        have hj:j<P.cellsOf e:=by have:=(List.getElem?_eq_some_iff.1 hu).1;omega
        have:=hat j hj
        rw [hu,hn,hspot.1] at this
        rw [show ((⟨a.block,a.off,none⟩:Addr).add (i*R.n)).add j=⟨a.block,a.off+(i*R.n+j),none⟩ by
          unfold Addr.add
          by_cases h1:i*R.n=0 <;> by_cases h2:j=0 <;> simp [h1,h2,Nat.add_assoc]] at this
        exact this
      obtain ⟨g1,g2⟩:=all2_and h2
      exact ⟨xs,⟨_,rfl,some a,cap,by rw [h1],by omega,hcm,fun _=>⟨a.block,a.off,by rw [<- hspot.1],hspot.2,hspot.2,cells,g1,h3⟩⟩,by rw [h1];exact hlen,g2⟩
    · obtain rfl:len=0:=by omega
      exact ⟨[],⟨_,rfl,some a,cap,rfl,Nat.zero_le _,hcm,fun h=>absurd h (Nat.lt_irrefl _)⟩,by simp,fun a ha=>by cases ha⟩
section
variable {P : Program} {t : TypeId}
theorem RdA.sliceB {α:Type} {e:TypeId} {n:Nat} {enc:α->List AV} {Q:α->Prop} (h:RdA P e n enc Q) (ht:P.underlying t=some (.slice e)) (hn:P.cellsOf e=n) (h0:0<n) (hb:0<P.bytesOf e) {S:Nat} (hS:P.bytesOf e=S):RdA P t 1 (fun l:List α=>[.sl (l.map enc)]) (fun l=>l.length*S<=reachBytes/\∀a∈l,Q a):=by
 subst hS
 have E:=(avR_enc h.len h.one).slice h0
 refine ⟨E.len,E.one,fun H e w base spare held fuel cs x hx hz=>?_⟩
 have hR:RdZ P _ (avR n enc h.len h.one) Q:=fun H e w base spare held fuel cs x hx hz=>h.read H e w base spare held fuel cs x hx hz
 obtain ⟨a,ha,hq⟩:=hR.sliceB ht hn h0 hb H e w base spare held fuel cs x hx hz
 exact ⟨a,⟨by rw [(avR n enc h.len h.one).slice.len ha,E.len],fun j y hj=>E.one a y (List.mem_of_getElem? hj),fun j y v hj hv=>E.to ha j y v hj hv⟩,hq⟩
end
theorem rf_Pts:RdA Tryz.prog 115 1 (fun l:List (Pt)=>[.sl (l.map cPt)]) (fun l=>l.length*40<=reachBytes/\∀a∈l,True):=(RdA.of ra_Pt).sliceB Tryz.underlying115 (by kernel_rfl) (by decide) (Nat.le_of_ble_eq_true (by kernel_rfl)) (by kernel_rfl)
theorem rf_Ptss:RdA Tryz.prog 22 1 (fun l:List (List Pt)=>[.sl (l.map cPts)]) (fun l=>l.length*24<=reachBytes/\∀a∈l,a.length*40<=reachBytes/\∀b∈a,True):=rf_Pts.sliceB Tryz.underlying22 (by kernel_rfl) (by decide) (Nat.le_of_ble_eq_true (by kernel_rfl)) (by kernel_rfl)
theorem rf_Prs:RdA Tryz.prog 25 1 (fun l:List (Int × Int)=>[.sl (l.map cPr)]) (fun l=>l.length*16<=reachBytes/\∀a∈l,True):=(RdA.of ra_Pr).sliceB Tryz.underlying25 (by kernel_rfl) (by decide) (Nat.le_of_ble_eq_true (by kernel_rfl)) (by kernel_rfl)
theorem rf_Wys:RdA Tryz.prog 26 1 (fun l:List (Wy)=>[.sl (l.map cWy)]) (fun l=>l.length*24<=reachBytes/\∀a∈l,True):=(RdA.of ra_Wy).sliceB Tryz.underlying26 (by kernel_rfl) (by decide) (Nat.le_of_ble_eq_true (by kernel_rfl)) (by kernel_rfl)
theorem rf_Rls:RdA Tryz.prog 48 1 (fun l:List (Rl)=>[.sl (l.map cRl)]) (fun l=>l.length*96<=reachBytes/\∀a∈l,True):=(RdA.of ra_Rl).sliceB Tryz.underlying48 (by kernel_rfl) (by decide) (Nat.le_of_ble_eq_true (by kernel_rfl)) (by kernel_rfl)
theorem rf_Tab:RdA Tryz.prog 47 1 (fun l:List (List Rl)=>[.sl (l.map cRls)]) (fun l=>l.length*24<=reachBytes/\∀a∈l,a.length*96<=reachBytes/\∀b∈a,True):=rf_Rls.sliceB Tryz.underlying47 (by kernel_rfl) (by decide) (Nat.le_of_ble_eq_true (by kernel_rfl)) (by kernel_rfl)
theorem rf_Tabs:RdA Tryz.prog 29 1 (fun l:List (List (List Rl))=>[.sl (l.map cTab)]) (fun l=>l.length*24<=reachBytes/\∀a∈l,a.length*24<=reachBytes/\∀b∈a,b.length*96<=reachBytes/\∀c∈b,True):=rf_Tab.sliceB Tryz.underlying29 (by kernel_rfl) (by decide) (Nat.le_of_ble_eq_true (by kernel_rfl)) (by kernel_rfl)
theorem rf_Topo:RdA Tryz.prog 24 1 (α:=Topo) cTopo (fun a=>a.ports.length*24<=reachBytes/\∀r∈a.ports,r.length*40<=reachBytes):=by
 refine ⟨fun _=>rfl,fun a=>List.all_eq_true.1 rfl,fun H e w base spare held fuel cs x hx hz=>?_⟩
 obtain ⟨m,hl,hp⟩:=struct_partZ Tryz.underlying24 hx hz
 have hl:cs.length=1:=hl.trans (by kernel_rfl)
 obtain ⟨a0,h0,q0⟩:=rf_Ptss.part (hp 0 22 0 1 rfl (by kernel_rfl))
 exact ⟨⟨a0⟩,PWs.all (h0.join rfl (PWs.nil hl)),q0.1,fun r hr=>(q0.2 r hr).1⟩
theorem rf_Pol:RdA Tryz.prog 28 3 (α:=Pol) cPol (fun a=>a.peers.length*16<=reachBytes/\a.ways.length*24<=reachBytes):=by
 refine ⟨fun _=>rfl,fun a=>List.all_eq_true.1 rfl,fun H e w base spare held fuel cs x hx hz=>?_⟩
 obtain ⟨m,hl,hp⟩:=struct_partZ Tryz.underlying28 hx hz
 have hl:cs.length=3:=hl.trans (by kernel_rfl)
 obtain ⟨a0,h0,_⟩:=(RdA.of ra_int).part (hp 0 3 0 1 rfl (by kernel_rfl))
 obtain ⟨a1,h1,q1⟩:=rf_Prs.part (hp 1 25 1 1 rfl (by kernel_rfl))
 obtain ⟨a2,h2,q2⟩:=rf_Wys.part (hp 2 26 2 1 rfl (by kernel_rfl))
 exact ⟨⟨a0,a1,a2⟩,PWs.all (h0.join rfl (h1.join rfl (h2.join rfl (PWs.nil hl)))),q1.1,q2.1⟩
theorem rf_Cf:RdA Tryz.prog 31 5 (α:=Cf) cCf (fun c=>c.Lens/\c.Fit):=by
 refine ⟨fun _=>rfl,fun a=>List.all_eq_true.1 rfl,fun H e w base spare held fuel cs x hx hz=>?_⟩
 obtain ⟨m,hl,hp⟩:=struct_partZ Tryz.underlying31 hx hz
 have hl:cs.length=5:=hl.trans (by kernel_rfl)
 obtain ⟨a0,h0,q0⟩:=rf_Topo.part (hp 0 24 0 1 rfl (by kernel_rfl))
 obtain ⟨a1,h1,q1⟩:=rf_Pol.part (hp 1 28 1 3 rfl (by kernel_rfl))
 obtain ⟨a2,h2,q2⟩:=rf_Tabs.part (hp 2 29 4 1 rfl (by kernel_rfl))
 refine ⟨⟨a0,a1,a2⟩,PWs.all (h0.join rfl (h1.join rfl (h2.join rfl (PWs.nil hl)))),fun t ht l hl=>?_,⟨q0.1,q0.2,q1.1,q1.2,q2.1,fun t ht=>(q2.2 t ht).1,fun t ht l hl=>((q2.2 t ht).2 l hl).1⟩⟩
 have:=((q2.2 t ht).2 l hl).1
 omega
end Go.Proofs.YtoaibdbehlcnfaaGreat.Sm
end
section
namespace Go.Proofs.YtoaibdbehlcnfaaGreat
open Go.RowKit Go.WideShapes Go.ChangeShapes Go.Deep Sm
theorem JudgeDrops_law {H:Type} {e:TypeId × Value->H} (W:World) (b0:Nat)
  (v0:Value) (d0:DataW H) (p0:List MemPlace) (ok0:Value.okWide Tryz.prog W .any b0 31 v0) (h0:DataW.Trod e Tryz.prog W 0 (fun _=>true) true 31 v0 d0 p0)
  (v1:Value) (d1:DataW H) (p1:List MemPlace) (ok1:Value.okWide Tryz.prog W .any b0 5 v1) (h1:DataW.Trod e Tryz.prog W 0 (fun _=>true) true 5 v1 d1 p1)
  (v2:Value) (d2:DataW H) (p2:List MemPlace) (ok2:Value.okWide Tryz.prog W .any b0 4 v2) (h2:DataW.Trod e Tryz.prog W 0 (fun _=>true) true 4 v2 d2 p2)
  (hsz:(DataW.weightsEach Tryz.prog [31,5,4] [d0,d1,d2]).all (·<=reachBytes)=true)
  : Calls Tryz.prog 4 #[v0,v1,v2] W fun e W'=>e = .returned (.bool true)/\Kp No W W':=by
 obtain ⟨a0,r0,q0⟩:=rf_Cf.arg_struct Tryz.underlying31 hsz 0 rfl rfl ok0 h0
 obtain ⟨a1,r1⟩:=ra_u8.arg_int Tryz.underlying5 ok1 h1
 obtain ⟨a2,r2⟩:=ra_bool.arg_bool Tryz.underlying4 ok2 h2
 exact (JudgeDrops_d a0 a1 a2 q0.2).law (vs:=[v0,v1,v2]) rfl (pw_cons r0 (pw_cons r1 (pw_cons r2 (pw_nil))))
end Go.Proofs.YtoaibdbehlcnfaaGreat
end
