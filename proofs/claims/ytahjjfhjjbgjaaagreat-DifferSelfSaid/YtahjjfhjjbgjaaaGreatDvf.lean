/- Contracts of the program's functions over data, and the plain laws that they meet (part 6). No condition. -/
import Derived.Test.YtahjjfhjjbgjaaaGreatDve
import Derived.WalkKit
import Derived.WalkSpells
import Derived.WalkLawsBesides
import Derived.Lib.Hide
import Derived.Deep.RegionHeld3
import Derived.Maps.AppendAt
import Derived.KernelRfl
import Derived.Lib.AppendStr
import Derived.Orders
import Derived.LoopTactic
import Derived.Laws.CopyRow
import Derived.Laws.Cells
import Derived.Great.BuildSlice
import Derived.Laws.ResultCell
import Derived.Laws.StructEq
import Derived.Laws.MakeOwn
import Derived.Deep.Slices
import Derived.Deep.Fields
import Derived.ChangeSame
import Derived.ProofKit
import Derived.OpenShut
import Derived.SizedLaws
import Derived.Test.YtahjjfhjjbgjaaaGreatProg
import Derived.Shelf.Spec.BitsCarry
import Derived.Lib.AppendZerosOnto
import Derived.DeepKeys4
import Derived.MapKept
import Derived.Sort.AssemblyPlain
import Derived.Sort.LotD4
import Derived.Sort.Walk13a
set_option linter.unusedVariables false
set_option linter.unusedSimpArgs false
set_option maxRecDepth 100000
set_option maxHeartbeats 4000000
section
namespace Go.Proofs.YtahjjfhjjbgjaaaGreat.Sm
open Go.RowKit
open Go.Sort (swp)
section
variable {α : Type} [Inhabited α] {lt : α → α → Bool}
theorem scanUp_eq (p:α→Bool) (d:Array α) (j i:Nat):Go.Sort.scanUp p d j i=bif (decide (i≤j) && p d[i]!) then Go.Sort.scanUp p d j (i+1) else i:=by
 rw [Go.Sort.scanUp]
 cases (decide (i≤j) && p d[i]!)
 ·rw [if_neg (by simp)];rfl
 ·rw [if_pos rfl];rfl
theorem scanDown_eq (p:α→Bool) (d:Array α) {i:Nat} (hi:0<i) (j:Nat):Go.Sort.scanDown p d i j=bif (decide (i≤j) && p d[j]!) then Go.Sort.scanDown p d i (j - 1) else j:=by
 cases j with
 | zero=>rw [decide_eq_false (show ¬i≤0 by omega),Bool.false_and];rfl
 | succ j =>
  rw [Go.Sort.scanDown,Nat.add_sub_cancel]
  cases (decide (i≤j+1) && p d[j+1]!)
  ·rw [if_neg (by simp)];rfl
  ·rw [if_pos rfl];rfl
theorem part_eq {d m:Array α} {a b pivot I J:Nat} (hm:swp d a pivot=m) (hI:Go.Sort.scanUp (fun x=>lt x m[a]!) m (b - 1) (a+1)=I) (hJ:Go.Sort.scanDown (fun x=>!lt x m[a]!) m I (b - 1)=J) :
  Go.Sort.partition lt d a b pivot=if I>J then (J,true,swp m J a) else ((Go.Sort.partLoop lt a (I+1) (J - 1) (swp m I J)).1,false,swp (Go.Sort.partLoop lt a (I+1) (J - 1) (swp m I J)).2 (Go.Sort.partLoop lt a (I+1) (J - 1) (swp m I J)).1 a):=by
 subst hm hI hJ
 rfl
theorem loop_eq {m:Array α} {a i j I J:Nat} (hI:Go.Sort.scanUp (fun x=>lt x m[a]!) m j i=I) (hJ:Go.Sort.scanDown (fun x=>!lt x m[a]!) m I j=J) :
  Go.Sort.partLoop lt a i j m=if I>J then (J,m) else Go.Sort.partLoop lt a (I+1) (J - 1) (swp m I J):=by
 rw [Go.Sort.partLoop_eq,hI,hJ]
theorem eqLoop_eq {m:Array α} {a i j I J:Nat} (hI:Go.Sort.scanUp (fun x=>!lt m[a]! x) m j i=I) (hJ:Go.Sort.scanDown (fun x=>lt m[a]! x) m I j=J) :
  Go.Sort.partEqLoop lt a i j m=if I>J then (I,m) else Go.Sort.partEqLoop lt a (I+1) (J - 1) (swp m I J):=by
 rw [Go.Sort.partEqLoop_eq,hI,hJ]
end
theorem m_part (l:List Rl) (L:Nat) (hL:l.length=L+1) (n:Nat) (hl:n≤100000) (d:Array (Fin (L+1))) (hn:d.size=n) (a b pivot:Nat) (ha:a≤pivot) (hp:pivot<b) (hb:b≤n) (q:Nat→Option (Nat × Nat)):MDoes Tryz.prog 239 [.row 201 0 0 n,.i .i64 ((a:Nat):Int),.i .i64 ((b:Nat):Int),.i .i64 ((pivot:Nat):Int),.fn 223 [.own 210 0 0] []] (gl q [210,201] (ioB l n (d))) (.tup [.i .i64 (((Go.Sort.partition (ltI l L) d a b pivot).1:Nat):Int),.b (Go.Sort.partition (ltI l L) d a b pivot).2.1]) (gl q [210,201] (ioB l n ((Go.Sort.partition (ltI l L) d a b pivot).2.2))):=by
  refine MDoes.of_body Tryz.func239 rfl (by kernel_rfl) rfl rfl ?_
  have hm:(swp d a pivot).size=n:=(swp_sz _ _ _).trans hn
  obtain ⟨m,e0⟩:∃m,swp d a pivot=m:=⟨_,rfl⟩
  obtain ⟨I,hI⟩:∃I,Go.Sort.scanUp (fun x=>ltI l L x m[a]!) m (b - 1) (a+1)=I:=⟨_,rfl⟩
  obtain ⟨J,hJ⟩:∃J,Go.Sort.scanDown (fun x=>!ltI l L x m[a]!) m I (b - 1)=J:=⟨_,rfl⟩
  rw [part_eq e0 hI hJ]
  have w1:IntKind.i64.wrap (((a:Nat):Int)+Int.ofNat 1)=((a+1:Nat):Int):=by simp only [IntKind.wrap_i64,Int.ofNat_eq_natCast];omega
  have w2:IntKind.i64.wrap (((b:Nat):Int) - Int.ofNat 1)=((b - 1:Nat):Int):=by simp only [IntKind.wrap_i64,Int.ofNat_eq_natCast];omega
  (repeat first|apply wA|apply wB|apply wC|apply wE|(apply zM;·kernel_rfl))
  refine AW.text ?_
  refine wH rfl ?_;(repeat first|apply wA|apply wB|apply wC|apply wE|(apply zM;·kernel_rfl))
  refine AW.draws mixed_ok ?_
  refine wH rfl ?_;refine RG.opS rfl (op_ixW (pivot) numF ((d).toList) (by omega) rfl (tab_ok ty_ok rfl) rfl (tab_ok ty_ok rfl) rfl rfl rfl (by first | omega | (simp only [IntKind.wrap_i64,Int.ofNat_eq_natCast] <;> omega) | rfl)) rfl ?_;refine RG.opS rfl (op_ldW (pivot) numF (d) (by omega) rfl (tab_ok ty_ok rfl) rfl rfl rfl) rfl ?_;refine wH rfl ?_;refine RG.opS rfl (op_ixW (a) numF ((d).toList) (by omega) rfl (tab_ok ty_ok rfl) rfl (tab_ok ty_ok rfl) rfl rfl rfl (by first | omega | (simp only [IntKind.wrap_i64,Int.ofNat_eq_natCast] <;> omega) | rfl)) rfl ?_;refine RG.opS rfl (op_ldW (a) numF (d) (by omega) rfl (tab_ok ty_ok rfl) rfl rfl rfl) rfl ?_;refine wH rfl ?_;refine RG.opS rfl (op_ixW (a) numF ((d).toList) (by omega) rfl (tab_ok ty_ok rfl) rfl (tab_ok ty_ok rfl) rfl rfl rfl (by first | omega | (simp only [IntKind.wrap_i64,Int.ofNat_eq_natCast] <;> omega) | rfl)) rfl ?_;refine RG.opS rfl (op_stW (a) numF ((d).toList) ((d)[pivot]!) (by simp only [List.length_set,Array.length_toList];omega) rfl (tab_ok ty_ok rfl) rfl rfl rfl rfl rfl (fun _=>rfl)) rfl ?_;refine wH rfl ?_;refine RG.opS rfl (op_ixW (pivot) numF (((d).toList.set (a) (d)[pivot]!)) (by omega) rfl (tab_ok ty_ok rfl) rfl (tab_ok ty_ok rfl) rfl rfl rfl (by first | omega | (simp only [IntKind.wrap_i64,Int.ofNat_eq_natCast] <;> omega) | rfl)) rfl ?_;refine RG.opS rfl (op_stW (pivot) numF (((d).toList.set (a) (d)[pivot]!)) ((d)[a]!) (by simp only [List.length_set,Array.length_toList];omega) rfl (tab_ok ty_ok rfl) rfl rfl rfl rfl rfl (fun _=>rfl)) rfl ?_
  rw [← swp_list,e0]
  rw [e0] at hm
  clear e0 hn
  refine wH rfl ?_;(repeat first|apply wA|apply wB|apply wC|apply wE|(apply zM;·kernel_rfl)|refine zI rfl ?_|refine zJ rfl ?_)
  refine AW.loopL (ι:=Nat) (fun x=>[(0,.row 201 0 0 n),(1,.i .i64 ((a:Nat):Int)),(4,.fn 223 [.own 210 0 0] []),(12,.i .i64 ((x:Nat):Int)),(13,.i .i64 (((b - 1):Nat):Int))]) (fun _=>gl q [210,201] (ioB l n (m))) (fun x=>(a<x∧x≤b)∧Go.Sort.scanUp (fun x=>ltI l L x m[a]!) m (b - 1) x=I) (fun x=>(b - 1)+1 - x) ((a+1)) ⟨by omega,hI⟩ ⟨Rn.rowIs rfl rfl rfl,Rn.is rfl rfl,Rn.fnO rfl rfl rfl,Rn.is (congrArg (AV.i .i64) w1) rfl,Rn.is (congrArg (AV.i .i64) w2) rfl,trivial⟩ (io_end rfl rfl rfl rfl rfl (rfl) (rowFit (by assumption))) fun x hx=>?_
  clear hI
  obtain ⟨hx,hf⟩:=hx
  rw [scanUp_eq] at hf
  (repeat first|apply wA|apply wB|apply wC|apply wE|(apply zM;·kernel_rfl))
  refine AW.cutT (ι:=Unit) (fun _=>[(0,.row 201 0 0 n),(1,.i .i64 ((a:Nat):Int)),(4,.fn 223 [.own 210 0 0] []),(12,.i .i64 ((x:Nat):Int)),(13,.i .i64 (((b - 1):Nat):Int)),(47,.b (decide (x≤(b - 1)) && (ltI l L m[x]! m[a]!)))]) (fun _=>gl q [210,201] (ioB l n (m))) (fun _=>True) ?_ fun _ _=>?_
  · refine AW.draws mixed_ok ?_
    by_cases g1:((x:Nat):Int)≤(((b - 1):Nat):Int)
    · refine RG.runO ty_ok 0 [(34,.b true)] 400 rfl (by repeat' (first|exact trivial|apply And.intro|exact dT ‹_›|exact dF ‹_›|exact dN ‹_›|exact dM ‹_›|exact dI ‹_›)) ?_
      refine wH rfl ?_;refine RG.opS rfl (op_ixW (x) numF ((m).toList) (by omega) rfl (tab_ok ty_ok rfl) rfl (tab_ok ty_ok rfl) rfl rfl rfl (by first | omega | (simp only [IntKind.wrap_i64,Int.ofNat_eq_natCast] <;> omega) | rfl)) rfl ?_;refine RG.opS rfl (op_ldW (x) numF (m) (by omega) rfl (tab_ok ty_ok rfl) rfl rfl rfl) rfl ?_
      refine wH rfl ?_;refine RG.opS rfl (op_ixW (a) numF ((m).toList) (by omega) rfl (tab_ok ty_ok rfl) rfl (tab_ok ty_ok rfl) rfl rfl rfl (by first | omega | (simp only [IntKind.wrap_i64,Int.ofNat_eq_natCast] <;> omega) | rfl)) rfl ?_;refine RG.opS rfl (op_ldW (a) numF (m) (by omega) rfl (tab_ok ty_ok rfl) rfl rfl rfl) rfl ?_
      refine wH rfl ?_
      refine RG.ownK [(210,210),(201,201)] [(210,210),(201,201)] 201 201 rfl (fun q=>m_compare l L hL n (m) (m[x]!) (m[a]!) q (rowFit (by assumption))) rfl rfl rfl rfl rfl rfl rfl rfl rfl rfl rfl rfl rfl ?_
      refine wH rfl ?_;(repeat first|apply wA|apply wB|apply wC|apply wE|(apply zM;·kernel_rfl))
      exact ⟨(),trivial,⟨Rn.rowIs rfl rfl rfl,Rn.is rfl rfl,Rn.fnO rfl rfl rfl,Rn.is rfl rfl,Rn.is rfl rfl,Rn.is (congrArg AV.b (by rw [decide_eq_true (show x≤(b - 1) by omega),Bool.true_and];rfl)) rfl,trivial⟩,io_end rfl rfl rfl rfl rfl (rfl) (rowFit (by assumption))⟩
    · refine RG.runO ty_ok 0 [(34,.b false)] 400 rfl (by repeat' (first|exact trivial|apply And.intro|exact dT ‹_›|exact dF ‹_›|exact dN ‹_›|exact dM ‹_›|exact dI ‹_›)) ?_
      (repeat first|apply wA|apply wB|apply wC|apply wE|(apply zM;·kernel_rfl))
      exact ⟨(),trivial,⟨Rn.rowIs rfl rfl rfl,Rn.is rfl rfl,Rn.fnO rfl rfl rfl,Rn.is rfl rfl,Rn.is rfl rfl,Rn.is (congrArg AV.b (by rw [decide_eq_false (show ¬x≤(b - 1) by omega),Bool.false_and])) rfl,trivial⟩,io_end rfl rfl rfl rfl rfl (rfl) (rowFit (by assumption))⟩
  cases hb:(decide (x≤(b - 1)) && (ltI l L m[x]! m[a]!))
  rotate_left
  · rw [hb,cond_true] at hf
    have hle:x≤(b - 1):=by
      rw [Bool.and_eq_true,decide_eq_true_eq] at hb
      exact hb.1
    have w9:IntKind.i64.wrap (((x:Nat):Int)+Int.ofNat 1)=((x+1:Nat):Int):=by simp only [IntKind.wrap_i64,Int.ofNat_eq_natCast];omega
    refine AW.cond rfl (fun _=>?_) (fun h1=>by cases h1)
    (repeat first|apply wA|apply wB|apply wC|apply wE|(apply zM;·kernel_rfl)|refine zI rfl ?_|refine zJ rfl ?_)
    exact ⟨x+1,⟨⟨by omega,hf⟩,by omega⟩,⟨Rn.rowIs rfl rfl rfl,Rn.is rfl rfl,Rn.fnO rfl rfl rfl,Rn.is (congrArg (AV.i .i64) w9) rfl,Rn.is rfl rfl,trivial⟩,io_end rfl rfl rfl rfl rfl (rfl) (rowFit (by assumption))⟩
  rw [hb,cond_false] at hf
  clear hb
  obtain rfl:I=x:=hf.symm
  refine AW.cond rfl (fun h1=>by cases h1) (fun _=>?_)
  (repeat first|apply wA|apply wB|apply wC|apply wE|(apply zM;·kernel_rfl)|refine zI rfl ?_|refine zJ rfl ?_)
  refine AW.exit ?_;refine Eq.mpr (if_pos rfl) ?_;(repeat first|apply wA|apply wB|apply wC|apply wE|(apply zM;·kernel_rfl)|refine zI rfl ?_|refine zJ rfl ?_)
  refine AW.loopL (ι:=Nat) (fun x=>[(0,.row 201 0 0 n),(1,.i .i64 ((a:Nat):Int)),(4,.fn 223 [.own 210 0 0] []),(12,.i .i64 ((I:Nat):Int)),(13,.i .i64 ((x:Nat):Int))]) (fun _=>gl q [210,201] (ioB l n (m))) (fun x=>(a≤x∧x≤b - 1)∧Go.Sort.scanDown (fun x=>!ltI l L x m[a]!) m I x=J) (fun x=>x) ((b - 1)) ⟨by omega,hJ⟩ ⟨Rn.rowIs rfl rfl rfl,Rn.is rfl rfl,Rn.fnO rfl rfl rfl,Rn.is rfl rfl,Rn.is rfl rfl,trivial⟩ (io_end rfl rfl rfl rfl rfl (rfl) (rowFit (by assumption))) fun x hx=>?_
  clear hJ
  obtain ⟨hy,hf⟩:=hx
  rw [scanDown_eq _ _ (by omega)] at hf
  (repeat first|apply wA|apply wB|apply wC|apply wE|(apply zM;·kernel_rfl))
  refine AW.cutT (ι:=Unit) (fun _=>[(0,.row 201 0 0 n),(1,.i .i64 ((a:Nat):Int)),(4,.fn 223 [.own 210 0 0] []),(12,.i .i64 ((I:Nat):Int)),(13,.i .i64 ((x:Nat):Int)),(66,.b (decide (I≤x) && (!ltI l L m[x]! m[a]!)))]) (fun _=>gl q [210,201] (ioB l n (m))) (fun _=>True) ?_ fun _ _=>?_
  · refine AW.draws mixed_ok ?_
    by_cases g1:((I:Nat):Int)≤((x:Nat):Int)
    · refine RG.runO ty_ok 0 [(52,.b true)] 400 rfl (by repeat' (first|exact trivial|apply And.intro|exact dT ‹_›|exact dF ‹_›|exact dN ‹_›|exact dM ‹_›|exact dI ‹_›)) ?_
      refine wH rfl ?_;refine RG.opS rfl (op_ixW (x) numF ((m).toList) (by omega) rfl (tab_ok ty_ok rfl) rfl (tab_ok ty_ok rfl) rfl rfl rfl (by first | omega | (simp only [IntKind.wrap_i64,Int.ofNat_eq_natCast] <;> omega) | rfl)) rfl ?_;refine RG.opS rfl (op_ldW (x) numF (m) (by omega) rfl (tab_ok ty_ok rfl) rfl rfl rfl) rfl ?_
      refine wH rfl ?_;refine RG.opS rfl (op_ixW (a) numF ((m).toList) (by omega) rfl (tab_ok ty_ok rfl) rfl (tab_ok ty_ok rfl) rfl rfl rfl (by first | omega | (simp only [IntKind.wrap_i64,Int.ofNat_eq_natCast] <;> omega) | rfl)) rfl ?_;refine RG.opS rfl (op_ldW (a) numF (m) (by omega) rfl (tab_ok ty_ok rfl) rfl rfl rfl) rfl ?_
      refine wH rfl ?_
      refine RG.ownK [(210,210),(201,201)] [(210,210),(201,201)] 201 201 rfl (fun q=>m_compare l L hL n (m) (m[x]!) (m[a]!) q (rowFit (by assumption))) rfl rfl rfl rfl rfl rfl rfl rfl rfl rfl rfl rfl rfl ?_
      refine wH rfl ?_;(repeat first|apply wA|apply wB|apply wC|apply wE|(apply zM;·kernel_rfl))
      exact ⟨(),trivial,⟨Rn.rowIs rfl rfl rfl,Rn.is rfl rfl,Rn.fnO rfl rfl rfl,Rn.is rfl rfl,Rn.is rfl rfl,Rn.is (congrArg AV.b (by rw [decide_eq_true (show I≤x by omega),Bool.true_and];rfl)) rfl,trivial⟩,io_end rfl rfl rfl rfl rfl (rfl) (rowFit (by assumption))⟩
    · refine RG.runO ty_ok 0 [(52,.b false)] 400 rfl (by repeat' (first|exact trivial|apply And.intro|exact dT ‹_›|exact dF ‹_›|exact dN ‹_›|exact dM ‹_›|exact dI ‹_›)) ?_
      (repeat first|apply wA|apply wB|apply wC|apply wE|(apply zM;·kernel_rfl))
      exact ⟨(),trivial,⟨Rn.rowIs rfl rfl rfl,Rn.is rfl rfl,Rn.fnO rfl rfl rfl,Rn.is rfl rfl,Rn.is rfl rfl,Rn.is (congrArg AV.b (by rw [decide_eq_false (show ¬I≤x by omega),Bool.false_and])) rfl,trivial⟩,io_end rfl rfl rfl rfl rfl (rfl) (rowFit (by assumption))⟩
  cases hb:(decide (I≤x) && (!ltI l L m[x]! m[a]!))
  rotate_left
  · rw [hb,cond_true] at hf
    have hle:I≤x:=by
      rw [Bool.and_eq_true,decide_eq_true_eq] at hb
      exact hb.1
    have w9:IntKind.i64.wrap (((x:Nat):Int) - Int.ofNat 1)=((x - 1:Nat):Int):=by simp only [IntKind.wrap_i64,Int.ofNat_eq_natCast];omega
    refine AW.cond rfl (fun _=>?_) (fun h1=>by cases h1)
    (repeat first|apply wA|apply wB|apply wC|apply wE|(apply zM;·kernel_rfl)|refine zI rfl ?_|refine zJ rfl ?_)
    exact ⟨x - 1,⟨⟨by omega,hf⟩,by omega⟩,⟨Rn.rowIs rfl rfl rfl,Rn.is rfl rfl,Rn.fnO rfl rfl rfl,Rn.is rfl rfl,Rn.is (congrArg (AV.i .i64) w9) rfl,trivial⟩,io_end rfl rfl rfl rfl rfl (rfl) (rowFit (by assumption))⟩
  rw [hb,cond_false] at hf
  clear hb
  obtain rfl:J=x:=hf.symm
  refine AW.cond rfl (fun h1=>by cases h1) (fun _=>?_)
  (repeat first|apply wA|apply wB|apply wC|apply wE|(apply zM;·kernel_rfl)|refine zI rfl ?_|refine zJ rfl ?_)
  refine AW.exit ?_;refine Eq.mpr (if_pos rfl) ?_;(repeat first|apply wA|apply wB|apply wC|apply wE|(apply zM;·kernel_rfl)|refine zI rfl ?_|refine zJ rfl ?_)
  refine AW.cond rfl (fun h0=>?_) (fun h0=>?_)
  · have h : I > J := by
      have:=of_decide_eq_true h0
      try simp only at this
      omega
    rw [if_pos h]
    (repeat first|apply wA|apply wB|apply wC|apply wE|(apply zM;·kernel_rfl))
    refine AW.draws mixed_ok ?_
    refine wH rfl ?_;refine RG.opS rfl (op_ixW (a) numF ((m).toList) (by omega) rfl (tab_ok ty_ok rfl) rfl (tab_ok ty_ok rfl) rfl rfl rfl (by first | omega | (simp only [IntKind.wrap_i64,Int.ofNat_eq_natCast] <;> omega) | rfl)) rfl ?_;refine RG.opS rfl (op_ldW (a) numF (m) (by omega) rfl (tab_ok ty_ok rfl) rfl rfl rfl) rfl ?_;refine wH rfl ?_;refine RG.opS rfl (op_ixW (J) numF ((m).toList) (by omega) rfl (tab_ok ty_ok rfl) rfl (tab_ok ty_ok rfl) rfl rfl rfl (by first | omega | (simp only [IntKind.wrap_i64,Int.ofNat_eq_natCast] <;> omega) | rfl)) rfl ?_;refine RG.opS rfl (op_ldW (J) numF (m) (by omega) rfl (tab_ok ty_ok rfl) rfl rfl rfl) rfl ?_;refine wH rfl ?_;refine RG.opS rfl (op_ixW (J) numF ((m).toList) (by omega) rfl (tab_ok ty_ok rfl) rfl (tab_ok ty_ok rfl) rfl rfl rfl (by first | omega | (simp only [IntKind.wrap_i64,Int.ofNat_eq_natCast] <;> omega) | rfl)) rfl ?_;refine RG.opS rfl (op_stW (J) numF ((m).toList) ((m)[a]!) (by simp only [List.length_set,Array.length_toList];omega) rfl (tab_ok ty_ok rfl) rfl rfl rfl rfl rfl (fun _=>rfl)) rfl ?_;refine wH rfl ?_;refine RG.opS rfl (op_ixW (a) numF (((m).toList.set (J) (m)[a]!)) (by omega) rfl (tab_ok ty_ok rfl) rfl (tab_ok ty_ok rfl) rfl rfl rfl (by first | omega | (simp only [IntKind.wrap_i64,Int.ofNat_eq_natCast] <;> omega) | rfl)) rfl ?_;refine RG.opS rfl (op_stW (a) numF (((m).toList.set (J) (m)[a]!)) ((m)[J]!) (by simp only [List.length_set,Array.length_toList];omega) rfl (tab_ok ty_ok rfl) rfl rfl rfl rfl rfl (fun _=>rfl)) rfl ?_
    refine wH rfl ?_;(repeat first|apply wA|apply wB|apply wC|apply wE|(apply zM;·kernel_rfl)|refine zI rfl ?_|refine zJ rfl ?_)
    exact AW.ret (retM2 rfl (Rm.is rfl rfl) (Rm.is rfl rfl) (io_end rfl rfl rfl rfl rfl (by rw [swp_list]) (rowFit ((swp_sz _ _ _).trans hm))))
  have h:¬I>J:=by
    have:=of_decide_eq_false h0
    try simp only at this
    omega
  rw [if_neg h]
  obtain ⟨R,hR⟩:∃R,Go.Sort.partLoop (ltI l L) a (I+1) (J - 1) (swp m I J)=R:=⟨_,rfl⟩
  rw [hR]
  have wI:IntKind.i64.wrap (((I:Nat):Int)+Int.ofNat 1)=((I+1:Nat):Int):=by simp only [IntKind.wrap_i64,Int.ofNat_eq_natCast];omega
  have wJ:IntKind.i64.wrap (((J:Nat):Int) - Int.ofNat 1)=((J - 1:Nat):Int):=by simp only [IntKind.wrap_i64,Int.ofNat_eq_natCast];omega
  have hm2:=(swp_sz m I J).trans hm
  (repeat first|apply wA|apply wB|apply wC|apply wE|(apply zM;·kernel_rfl))
  refine AW.draws mixed_ok ?_
  refine wH rfl ?_;refine RG.opS rfl (op_ixW (J) numF ((m).toList) (by omega) rfl (tab_ok ty_ok rfl) rfl (tab_ok ty_ok rfl) rfl rfl rfl (by first | omega | (simp only [IntKind.wrap_i64,Int.ofNat_eq_natCast] <;> omega) | rfl)) rfl ?_;refine RG.opS rfl (op_ldW (J) numF (m) (by omega) rfl (tab_ok ty_ok rfl) rfl rfl rfl) rfl ?_;refine wH rfl ?_;refine RG.opS rfl (op_ixW (I) numF ((m).toList) (by omega) rfl (tab_ok ty_ok rfl) rfl (tab_ok ty_ok rfl) rfl rfl rfl (by first | omega | (simp only [IntKind.wrap_i64,Int.ofNat_eq_natCast] <;> omega) | rfl)) rfl ?_;refine RG.opS rfl (op_ldW (I) numF (m) (by omega) rfl (tab_ok ty_ok rfl) rfl rfl rfl) rfl ?_;refine wH rfl ?_;refine RG.opS rfl (op_ixW (I) numF ((m).toList) (by omega) rfl (tab_ok ty_ok rfl) rfl (tab_ok ty_ok rfl) rfl rfl rfl (by first | omega | (simp only [IntKind.wrap_i64,Int.ofNat_eq_natCast] <;> omega) | rfl)) rfl ?_;refine RG.opS rfl (op_stW (I) numF ((m).toList) ((m)[J]!) (by simp only [List.length_set,Array.length_toList];omega) rfl (tab_ok ty_ok rfl) rfl rfl rfl rfl rfl (fun _=>rfl)) rfl ?_;refine wH rfl ?_;refine RG.opS rfl (op_ixW (J) numF (((m).toList.set (I) (m)[J]!)) (by omega) rfl (tab_ok ty_ok rfl) rfl (tab_ok ty_ok rfl) rfl rfl rfl (by first | omega | (simp only [IntKind.wrap_i64,Int.ofNat_eq_natCast] <;> omega) | rfl)) rfl ?_;refine RG.opS rfl (op_stW (J) numF (((m).toList.set (I) (m)[J]!)) ((m)[I]!) (by simp only [List.length_set,Array.length_toList];omega) rfl (tab_ok ty_ok rfl) rfl rfl rfl rfl rfl (fun _=>rfl)) rfl ?_
  refine wH rfl ?_;(repeat first|apply wA|apply wB|apply wC|apply wE|(apply zM;·kernel_rfl)|refine zI rfl ?_|refine zJ rfl ?_)
  refine AW.loopL (ι:=(Nat × Nat) × Array (Fin (L+1))) (fun x=>[(0,.row 201 0 0 n),(1,.i .i64 ((a:Nat):Int)),(4,.fn 223 [.own 210 0 0] []),(12,.i .i64 ((x.1.1:Nat):Int)),(13,.i .i64 ((x.1.2:Nat):Int))]) (fun x=>gl q [210,201] (ioB l n (x.2))) (fun x=>(a<x.1.1∧x.1.1≤x.1.2+2∧a≤x.1.2∧x.1.2<n∧x.2.size=n)∧Go.Sort.partLoop (ltI l L) a x.1.1 x.1.2 x.2=R) (fun x=>x.1.2+1 - x.1.1) ((I+1,J - 1),swp m I J) ⟨⟨by show a<I+1;omega,by show I+1≤J - 1+2;omega,by show a≤J - 1;omega,by show J - 1<n;omega,hm2⟩,hR⟩ ⟨Rn.rowTIs rfl rfl rfl (rowFit (hm2)),Rn.is rfl rfl,Rn.fnO rfl rfl rfl,Rn.is (congrArg (AV.i .i64) wI) rfl,Rn.is (congrArg (AV.i .i64) wJ) rfl,trivial⟩ (io_end rfl rfl rfl rfl rfl (by rw [swp_list]) (rowFit (by assumption))) fun x hx=>?_
  clear hR hm2 hm wI wJ
  obtain ⟨⟨i,j⟩,m⟩:=x
  obtain ⟨⟨hi,hij,haj,hj,hm⟩,hG⟩:=hx
  simp only at hi hij haj hj hm hG
  obtain ⟨I,hI⟩:∃I,Go.Sort.scanUp (fun x=>ltI l L x m[a]!) m j i=I:=⟨_,rfl⟩
  obtain ⟨J,hJ⟩:∃J,Go.Sort.scanDown (fun x=>!ltI l L x m[a]!) m I j=J:=⟨_,rfl⟩
  rw [loop_eq hI hJ] at hG
  (repeat first|apply wA|apply wB|apply wC|apply wE|(apply zM;·kernel_rfl))
  refine AW.loopL (ι:=Nat) (fun x=>[(0,.row 201 0 0 n),(1,.i .i64 ((a:Nat):Int)),(4,.fn 223 [.own 210 0 0] []),(12,.i .i64 ((x:Nat):Int)),(13,.i .i64 ((j:Nat):Int))]) (fun _=>gl q [210,201] (ioB l n (m))) (fun x=>(i≤x∧x≤j+2)∧Go.Sort.scanUp (fun x=>ltI l L x m[a]!) m j x=I) (fun x=>j+1 - x) (i) ⟨by omega,hI⟩ ⟨Rn.rowIs rfl rfl rfl,Rn.is rfl rfl,Rn.fnO rfl rfl rfl,Rn.is rfl rfl,Rn.is rfl rfl,trivial⟩ (io_end rfl rfl rfl rfl rfl (rfl) (rowFit (by assumption))) fun x hx=>?_
  clear hI
  obtain ⟨hx,hf⟩:=hx
  rw [scanUp_eq] at hf
  (repeat first|apply wA|apply wB|apply wC|apply wE|(apply zM;·kernel_rfl))
  refine AW.cutT (ι:=Unit) (fun _=>[(0,.row 201 0 0 n),(1,.i .i64 ((a:Nat):Int)),(4,.fn 223 [.own 210 0 0] []),(12,.i .i64 ((x:Nat):Int)),(13,.i .i64 ((j:Nat):Int)),(120,.b (decide (x≤j) && (ltI l L m[x]! m[a]!)))]) (fun _=>gl q [210,201] (ioB l n (m))) (fun _=>True) ?_ fun _ _=>?_
  · refine AW.draws mixed_ok ?_
    by_cases g1:((x:Nat):Int)≤((j:Nat):Int)
    · refine RG.runO ty_ok 0 [(107,.b true)] 400 rfl (by repeat' (first|exact trivial|apply And.intro|exact dT ‹_›|exact dF ‹_›|exact dN ‹_›|exact dM ‹_›|exact dI ‹_›)) ?_
      refine wH rfl ?_;refine RG.opS rfl (op_ixW (x) numF ((m).toList) (by omega) rfl (tab_ok ty_ok rfl) rfl (tab_ok ty_ok rfl) rfl rfl rfl (by first | omega | (simp only [IntKind.wrap_i64,Int.ofNat_eq_natCast] <;> omega) | rfl)) rfl ?_;refine RG.opS rfl (op_ldW (x) numF (m) (by omega) rfl (tab_ok ty_ok rfl) rfl rfl rfl) rfl ?_
      refine wH rfl ?_;refine RG.opS rfl (op_ixW (a) numF ((m).toList) (by omega) rfl (tab_ok ty_ok rfl) rfl (tab_ok ty_ok rfl) rfl rfl rfl (by first | omega | (simp only [IntKind.wrap_i64,Int.ofNat_eq_natCast] <;> omega) | rfl)) rfl ?_;refine RG.opS rfl (op_ldW (a) numF (m) (by omega) rfl (tab_ok ty_ok rfl) rfl rfl rfl) rfl ?_
      refine wH rfl ?_
      refine RG.ownK [(210,210),(201,201)] [(210,210),(201,201)] 201 201 rfl (fun q=>m_compare l L hL n (m) (m[x]!) (m[a]!) q (rowFit (by assumption))) rfl rfl rfl rfl rfl rfl rfl rfl rfl rfl rfl rfl rfl ?_
      refine wH rfl ?_;(repeat first|apply wA|apply wB|apply wC|apply wE|(apply zM;·kernel_rfl))
      exact ⟨(),trivial,⟨Rn.rowIs rfl rfl rfl,Rn.is rfl rfl,Rn.fnO rfl rfl rfl,Rn.is rfl rfl,Rn.is rfl rfl,Rn.is (congrArg AV.b (by rw [decide_eq_true (show x≤j by omega),Bool.true_and];rfl)) rfl,trivial⟩,io_end rfl rfl rfl rfl rfl (rfl) (rowFit (by assumption))⟩
    · refine RG.runO ty_ok 0 [(107,.b false)] 400 rfl (by repeat' (first|exact trivial|apply And.intro|exact dT ‹_›|exact dF ‹_›|exact dN ‹_›|exact dM ‹_›|exact dI ‹_›)) ?_
      (repeat first|apply wA|apply wB|apply wC|apply wE|(apply zM;·kernel_rfl))
      exact ⟨(),trivial,⟨Rn.rowIs rfl rfl rfl,Rn.is rfl rfl,Rn.fnO rfl rfl rfl,Rn.is rfl rfl,Rn.is rfl rfl,Rn.is (congrArg AV.b (by rw [decide_eq_false (show ¬x≤j by omega),Bool.false_and])) rfl,trivial⟩,io_end rfl rfl rfl rfl rfl (rfl) (rowFit (by assumption))⟩
  cases hb:(decide (x≤j) && (ltI l L m[x]! m[a]!))
  rotate_left
  · rw [hb,cond_true] at hf
    have hle:x≤j:=by
      rw [Bool.and_eq_true,decide_eq_true_eq] at hb
      exact hb.1
    have w9:IntKind.i64.wrap (((x:Nat):Int)+Int.ofNat 1)=((x+1:Nat):Int):=by simp only [IntKind.wrap_i64,Int.ofNat_eq_natCast];omega
    refine AW.cond rfl (fun _=>?_) (fun h1=>by cases h1)
    (repeat first|apply wA|apply wB|apply wC|apply wE|(apply zM;·kernel_rfl)|refine zI rfl ?_|refine zJ rfl ?_)
    exact ⟨x+1,⟨⟨by omega,hf⟩,by omega⟩,⟨Rn.rowIs rfl rfl rfl,Rn.is rfl rfl,Rn.fnO rfl rfl rfl,Rn.is (congrArg (AV.i .i64) w9) rfl,Rn.is rfl rfl,trivial⟩,io_end rfl rfl rfl rfl rfl (rfl) (rowFit (by assumption))⟩
  rw [hb,cond_false] at hf
  clear hb
  obtain rfl:I=x:=hf.symm
  refine AW.cond rfl (fun h1=>by cases h1) (fun _=>?_)
  (repeat first|apply wA|apply wB|apply wC|apply wE|(apply zM;·kernel_rfl)|refine zI rfl ?_|refine zJ rfl ?_)
  refine AW.exit ?_;refine Eq.mpr (if_pos rfl) ?_;(repeat first|apply wA|apply wB|apply wC|apply wE|(apply zM;·kernel_rfl)|refine zI rfl ?_|refine zJ rfl ?_)
  refine AW.loopL (ι:=Nat) (fun x=>[(0,.row 201 0 0 n),(1,.i .i64 ((a:Nat):Int)),(4,.fn 223 [.own 210 0 0] []),(12,.i .i64 ((I:Nat):Int)),(13,.i .i64 ((x:Nat):Int))]) (fun _=>gl q [210,201] (ioB l n (m))) (fun x=>(a≤x∧x≤j)∧Go.Sort.scanDown (fun x=>!ltI l L x m[a]!) m I x=J) (fun x=>x) (j) ⟨by omega,hJ⟩ ⟨Rn.rowIs rfl rfl rfl,Rn.is rfl rfl,Rn.fnO rfl rfl rfl,Rn.is rfl rfl,Rn.is rfl rfl,trivial⟩ (io_end rfl rfl rfl rfl rfl (rfl) (rowFit (by assumption))) fun x hx=>?_
  clear hJ
  obtain ⟨hy,hf⟩:=hx
  rw [scanDown_eq _ _ (by omega)] at hf
  (repeat first|apply wA|apply wB|apply wC|apply wE|(apply zM;·kernel_rfl))
  refine AW.cutT (ι:=Unit) (fun _=>[(0,.row 201 0 0 n),(1,.i .i64 ((a:Nat):Int)),(4,.fn 223 [.own 210 0 0] []),(12,.i .i64 ((I:Nat):Int)),(13,.i .i64 ((x:Nat):Int)),(139,.b (decide (I≤x) && (!ltI l L m[x]! m[a]!)))]) (fun _=>gl q [210,201] (ioB l n (m))) (fun _=>True) ?_ fun _ _=>?_
  · refine AW.draws mixed_ok ?_
    by_cases g1:((I:Nat):Int)≤((x:Nat):Int)
    · refine RG.runO ty_ok 0 [(125,.b true)] 400 rfl (by repeat' (first|exact trivial|apply And.intro|exact dT ‹_›|exact dF ‹_›|exact dN ‹_›|exact dM ‹_›|exact dI ‹_›)) ?_
      refine wH rfl ?_;refine RG.opS rfl (op_ixW (x) numF ((m).toList) (by omega) rfl (tab_ok ty_ok rfl) rfl (tab_ok ty_ok rfl) rfl rfl rfl (by first | omega | (simp only [IntKind.wrap_i64,Int.ofNat_eq_natCast] <;> omega) | rfl)) rfl ?_;refine RG.opS rfl (op_ldW (x) numF (m) (by omega) rfl (tab_ok ty_ok rfl) rfl rfl rfl) rfl ?_
      refine wH rfl ?_;refine RG.opS rfl (op_ixW (a) numF ((m).toList) (by omega) rfl (tab_ok ty_ok rfl) rfl (tab_ok ty_ok rfl) rfl rfl rfl (by first | omega | (simp only [IntKind.wrap_i64,Int.ofNat_eq_natCast] <;> omega) | rfl)) rfl ?_;refine RG.opS rfl (op_ldW (a) numF (m) (by omega) rfl (tab_ok ty_ok rfl) rfl rfl rfl) rfl ?_
      refine wH rfl ?_
      refine RG.ownK [(210,210),(201,201)] [(210,210),(201,201)] 201 201 rfl (fun q=>m_compare l L hL n (m) (m[x]!) (m[a]!) q (rowFit (by assumption))) rfl rfl rfl rfl rfl rfl rfl rfl rfl rfl rfl rfl rfl ?_
      refine wH rfl ?_;(repeat first|apply wA|apply wB|apply wC|apply wE|(apply zM;·kernel_rfl))
      exact ⟨(),trivial,⟨Rn.rowIs rfl rfl rfl,Rn.is rfl rfl,Rn.fnO rfl rfl rfl,Rn.is rfl rfl,Rn.is rfl rfl,Rn.is (congrArg AV.b (by rw [decide_eq_true (show I≤x by omega),Bool.true_and];rfl)) rfl,trivial⟩,io_end rfl rfl rfl rfl rfl (rfl) (rowFit (by assumption))⟩
    · refine RG.runO ty_ok 0 [(125,.b false)] 400 rfl (by repeat' (first|exact trivial|apply And.intro|exact dT ‹_›|exact dF ‹_›|exact dN ‹_›|exact dM ‹_›|exact dI ‹_›)) ?_
      (repeat first|apply wA|apply wB|apply wC|apply wE|(apply zM;·kernel_rfl))
      exact ⟨(),trivial,⟨Rn.rowIs rfl rfl rfl,Rn.is rfl rfl,Rn.fnO rfl rfl rfl,Rn.is rfl rfl,Rn.is rfl rfl,Rn.is (congrArg AV.b (by rw [decide_eq_false (show ¬I≤x by omega),Bool.false_and])) rfl,trivial⟩,io_end rfl rfl rfl rfl rfl (rfl) (rowFit (by assumption))⟩
  cases hb:(decide (I≤x) && (!ltI l L m[x]! m[a]!))
  rotate_left
  · rw [hb,cond_true] at hf
    have hle:I≤x:=by
      rw [Bool.and_eq_true,decide_eq_true_eq] at hb
      exact hb.1
    have w9:IntKind.i64.wrap (((x:Nat):Int) - Int.ofNat 1)=((x - 1:Nat):Int):=by simp only [IntKind.wrap_i64,Int.ofNat_eq_natCast];omega
    refine AW.cond rfl (fun _=>?_) (fun h1=>by cases h1)
    (repeat first|apply wA|apply wB|apply wC|apply wE|(apply zM;·kernel_rfl)|refine zI rfl ?_|refine zJ rfl ?_)
    exact ⟨x - 1,⟨⟨by omega,hf⟩,by omega⟩,⟨Rn.rowIs rfl rfl rfl,Rn.is rfl rfl,Rn.fnO rfl rfl rfl,Rn.is rfl rfl,Rn.is (congrArg (AV.i .i64) w9) rfl,trivial⟩,io_end rfl rfl rfl rfl rfl (rfl) (rowFit (by assumption))⟩
  rw [hb,cond_false] at hf
  clear hb
  obtain rfl:J=x:=hf.symm
  refine AW.cond rfl (fun h1=>by cases h1) (fun _=>?_)
  (repeat first|apply wA|apply wB|apply wC|apply wE|(apply zM;·kernel_rfl)|refine zI rfl ?_|refine zJ rfl ?_)
  refine AW.exit ?_;refine Eq.mpr (if_pos rfl) ?_;(repeat first|apply wA|apply wB|apply wC|apply wE|(apply zM;·kernel_rfl)|refine zI rfl ?_|refine zJ rfl ?_)
  refine AW.cond rfl (fun h0=>?_) (fun h0=>?_)
  · have h : I > J := by
      have:=of_decide_eq_true h0
      try simp only at this
      omega
    rw [if_pos h] at hG
    subst hG
    (repeat first|apply wA|apply wB|apply wC|apply wE|(apply zM;·kernel_rfl)|refine zI rfl ?_|refine zJ rfl ?_)
    refine AW.exit ?_;refine Eq.mpr (if_neg (by decide)) ?_;refine Eq.mpr (if_pos rfl) ?_;(repeat first|apply wA|apply wB|apply wC|apply wE|(apply zM;·kernel_rfl)|refine zI rfl ?_|refine zJ rfl ?_)
    refine wH rfl ?_;refine RG.opS rfl (op_ixW (a) numF ((m).toList) (by omega) rfl (tab_ok ty_ok rfl) rfl (tab_ok ty_ok rfl) rfl rfl rfl (by first | omega | (simp only [IntKind.wrap_i64,Int.ofNat_eq_natCast] <;> omega) | rfl)) rfl ?_;refine RG.opS rfl (op_ldW (a) numF (m) (by omega) rfl (tab_ok ty_ok rfl) rfl rfl rfl) rfl ?_;refine wH rfl ?_;refine RG.opS rfl (op_ixW (J) numF ((m).toList) (by omega) rfl (tab_ok ty_ok rfl) rfl (tab_ok ty_ok rfl) rfl rfl rfl (by first | omega | (simp only [IntKind.wrap_i64,Int.ofNat_eq_natCast] <;> omega) | rfl)) rfl ?_;refine RG.opS rfl (op_ldW (J) numF (m) (by omega) rfl (tab_ok ty_ok rfl) rfl rfl rfl) rfl ?_;refine wH rfl ?_;refine RG.opS rfl (op_ixW (J) numF ((m).toList) (by omega) rfl (tab_ok ty_ok rfl) rfl (tab_ok ty_ok rfl) rfl rfl rfl (by first | omega | (simp only [IntKind.wrap_i64,Int.ofNat_eq_natCast] <;> omega) | rfl)) rfl ?_;refine RG.opS rfl (op_stW (J) numF ((m).toList) ((m)[a]!) (by simp only [List.length_set,Array.length_toList];omega) rfl (tab_ok ty_ok rfl) rfl rfl rfl rfl rfl (fun _=>rfl)) rfl ?_;refine wH rfl ?_;refine RG.opS rfl (op_ixW (a) numF (((m).toList.set (J) (m)[a]!)) (by omega) rfl (tab_ok ty_ok rfl) rfl (tab_ok ty_ok rfl) rfl rfl rfl (by first | omega | (simp only [IntKind.wrap_i64,Int.ofNat_eq_natCast] <;> omega) | rfl)) rfl ?_;refine RG.opS rfl (op_stW (a) numF (((m).toList.set (J) (m)[a]!)) ((m)[J]!) (by simp only [List.length_set,Array.length_toList];omega) rfl (tab_ok ty_ok rfl) rfl rfl rfl rfl rfl (fun _=>rfl)) rfl ?_
    refine wH rfl ?_;(repeat first|apply wA|apply wB|apply wC|apply wE|(apply zM;·kernel_rfl)|refine zI rfl ?_|refine zJ rfl ?_)
    exact AW.ret (retM2 rfl (Rm.is rfl rfl) (Rm.is rfl rfl) (io_end rfl rfl rfl rfl rfl (by rw [swp_list]) (rowFit ((swp_sz _ _ _).trans hm))))
  have h:¬I>J:=by
    have:=of_decide_eq_false h0
    try simp only at this
    omega
  rw [if_neg h] at hG
  have wI:IntKind.i64.wrap (((I:Nat):Int)+Int.ofNat 1)=((I+1:Nat):Int):=by simp only [IntKind.wrap_i64,Int.ofNat_eq_natCast];omega
  have wJ:IntKind.i64.wrap (((J:Nat):Int) - Int.ofNat 1)=((J - 1:Nat):Int):=by simp only [IntKind.wrap_i64,Int.ofNat_eq_natCast];omega
  have hm2:=(swp_sz m I J).trans hm
  (repeat first|apply wA|apply wB|apply wC|apply wE|(apply zM;·kernel_rfl))
  refine AW.draws mixed_ok ?_
  refine wH rfl ?_;refine RG.opS rfl (op_ixW (J) numF ((m).toList) (by omega) rfl (tab_ok ty_ok rfl) rfl (tab_ok ty_ok rfl) rfl rfl rfl (by first | omega | (simp only [IntKind.wrap_i64,Int.ofNat_eq_natCast] <;> omega) | rfl)) rfl ?_;refine RG.opS rfl (op_ldW (J) numF (m) (by omega) rfl (tab_ok ty_ok rfl) rfl rfl rfl) rfl ?_;refine wH rfl ?_;refine RG.opS rfl (op_ixW (I) numF ((m).toList) (by omega) rfl (tab_ok ty_ok rfl) rfl (tab_ok ty_ok rfl) rfl rfl rfl (by first | omega | (simp only [IntKind.wrap_i64,Int.ofNat_eq_natCast] <;> omega) | rfl)) rfl ?_;refine RG.opS rfl (op_ldW (I) numF (m) (by omega) rfl (tab_ok ty_ok rfl) rfl rfl rfl) rfl ?_;refine wH rfl ?_;refine RG.opS rfl (op_ixW (I) numF ((m).toList) (by omega) rfl (tab_ok ty_ok rfl) rfl (tab_ok ty_ok rfl) rfl rfl rfl (by first | omega | (simp only [IntKind.wrap_i64,Int.ofNat_eq_natCast] <;> omega) | rfl)) rfl ?_;refine RG.opS rfl (op_stW (I) numF ((m).toList) ((m)[J]!) (by simp only [List.length_set,Array.length_toList];omega) rfl (tab_ok ty_ok rfl) rfl rfl rfl rfl rfl (fun _=>rfl)) rfl ?_;refine wH rfl ?_;refine RG.opS rfl (op_ixW (J) numF (((m).toList.set (I) (m)[J]!)) (by omega) rfl (tab_ok ty_ok rfl) rfl (tab_ok ty_ok rfl) rfl rfl rfl (by first | omega | (simp only [IntKind.wrap_i64,Int.ofNat_eq_natCast] <;> omega) | rfl)) rfl ?_;refine RG.opS rfl (op_stW (J) numF (((m).toList.set (I) (m)[J]!)) ((m)[I]!) (by simp only [List.length_set,Array.length_toList];omega) rfl (tab_ok ty_ok rfl) rfl rfl rfl rfl rfl (fun _=>rfl)) rfl ?_
  refine wH rfl ?_;(repeat first|apply wA|apply wB|apply wC|apply wE|(apply zM;·kernel_rfl)|refine zI rfl ?_|refine zJ rfl ?_)
  exact ⟨((I+1,J - 1),swp m I J),⟨⟨⟨by show a<I+1;omega,by show I+1≤J - 1+2;omega,by show a≤J - 1;omega,by show J - 1<n;omega,hm2⟩,hG⟩,by show J - 1+1 - (I+1)<j+1 - i;omega⟩,⟨Rn.rowTIs rfl rfl rfl (rowFit (hm2)),Rn.is rfl rfl,Rn.fnO rfl rfl rfl,Rn.is (congrArg (AV.i .i64) wI) rfl,Rn.is (congrArg (AV.i .i64) wJ) rfl,trivial⟩,io_end rfl rfl rfl rfl rfl (by rw [swp_list]) (rowFit (by assumption))⟩
theorem m_partEq (l:List Rl) (L:Nat) (hL:l.length=L+1) (n:Nat) (hl:n≤100000) (d:Array (Fin (L+1))) (hn:d.size=n) (a b pivot:Nat) (ha:a≤pivot) (hp:pivot<b) (hb:b≤n) (q:Nat→Option (Nat × Nat)):MDoes Tryz.prog 238 [.row 201 0 0 n,.i .i64 ((a:Nat):Int),.i .i64 ((b:Nat):Int),.i .i64 ((pivot:Nat):Int),.fn 223 [.own 210 0 0] []] (gl q [210,201] (ioB l n (d))) (.i .i64 (((Go.Sort.partitionEqual (ltI l L) d a b pivot).1:Nat):Int)) (gl q [210,201] (ioB l n ((Go.Sort.partitionEqual (ltI l L) d a b pivot).2))):=by
  refine MDoes.of_body Tryz.func238 rfl (by kernel_rfl) rfl rfl ?_
  have hm:(swp d a pivot).size=n:=(swp_sz _ _ _).trans hn
  obtain ⟨R,hR⟩:∃R,Go.Sort.partitionEqual (ltI l L) d a b pivot=R:=⟨_,rfl⟩
  rw [hR]
  rw [Go.Sort.partitionEqual] at hR
  have w1:IntKind.i64.wrap (((a:Nat):Int)+Int.ofNat 1)=((a+1:Nat):Int):=by simp only [IntKind.wrap_i64,Int.ofNat_eq_natCast];omega
  have w2:IntKind.i64.wrap (((b:Nat):Int) - Int.ofNat 1)=((b - 1:Nat):Int):=by simp only [IntKind.wrap_i64,Int.ofNat_eq_natCast];omega
  (repeat first|apply wA|apply wB|apply wC|apply wE|(apply zM;·kernel_rfl))
  refine AW.text ?_
  refine wH rfl ?_;(repeat first|apply wA|apply wB|apply wC|apply wE|(apply zM;·kernel_rfl))
  refine AW.draws mixed_ok ?_
  refine wH rfl ?_;refine RG.opS rfl (op_ixW (pivot) numF ((d).toList) (by omega) rfl (tab_ok ty_ok rfl) rfl (tab_ok ty_ok rfl) rfl rfl rfl (by first | omega | (simp only [IntKind.wrap_i64,Int.ofNat_eq_natCast] <;> omega) | rfl)) rfl ?_;refine RG.opS rfl (op_ldW (pivot) numF (d) (by omega) rfl (tab_ok ty_ok rfl) rfl rfl rfl) rfl ?_;refine wH rfl ?_;refine RG.opS rfl (op_ixW (a) numF ((d).toList) (by omega) rfl (tab_ok ty_ok rfl) rfl (tab_ok ty_ok rfl) rfl rfl rfl (by first | omega | (simp only [IntKind.wrap_i64,Int.ofNat_eq_natCast] <;> omega) | rfl)) rfl ?_;refine RG.opS rfl (op_ldW (a) numF (d) (by omega) rfl (tab_ok ty_ok rfl) rfl rfl rfl) rfl ?_;refine wH rfl ?_;refine RG.opS rfl (op_ixW (a) numF ((d).toList) (by omega) rfl (tab_ok ty_ok rfl) rfl (tab_ok ty_ok rfl) rfl rfl rfl (by first | omega | (simp only [IntKind.wrap_i64,Int.ofNat_eq_natCast] <;> omega) | rfl)) rfl ?_;refine RG.opS rfl (op_stW (a) numF ((d).toList) ((d)[pivot]!) (by simp only [List.length_set,Array.length_toList];omega) rfl (tab_ok ty_ok rfl) rfl rfl rfl rfl rfl (fun _=>rfl)) rfl ?_;refine wH rfl ?_;refine RG.opS rfl (op_ixW (pivot) numF (((d).toList.set (a) (d)[pivot]!)) (by omega) rfl (tab_ok ty_ok rfl) rfl (tab_ok ty_ok rfl) rfl rfl rfl (by first | omega | (simp only [IntKind.wrap_i64,Int.ofNat_eq_natCast] <;> omega) | rfl)) rfl ?_;refine RG.opS rfl (op_stW (pivot) numF (((d).toList.set (a) (d)[pivot]!)) ((d)[a]!) (by simp only [List.length_set,Array.length_toList];omega) rfl (tab_ok ty_ok rfl) rfl rfl rfl rfl rfl (fun _=>rfl)) rfl ?_
  rw [← swp_list]
  refine wH rfl ?_;(repeat first|apply wA|apply wB|apply wC|apply wE|(apply zM;·kernel_rfl)|refine zI rfl ?_|refine zJ rfl ?_)
  refine AW.loopL (ι:=(Nat × Nat) × Array (Fin (L+1))) (fun x=>[(0,.row 201 0 0 n),(1,.i .i64 ((a:Nat):Int)),(4,.fn 223 [.own 210 0 0] []),(11,.i .i64 ((x.1.1:Nat):Int)),(12,.i .i64 ((x.1.2:Nat):Int))]) (fun x=>gl q [210,201] (ioB l n (x.2))) (fun x=>(a<x.1.1∧x.1.1≤x.1.2+2∧a≤x.1.2∧x.1.2<n∧x.2.size=n)∧Go.Sort.partEqLoop (ltI l L) a x.1.1 x.1.2 x.2=R) (fun x=>x.1.2+1 - x.1.1) ((a+1,b - 1),swp d a pivot) ⟨⟨by show a<a+1;omega,by show a+1≤b - 1+2;omega,by show a≤b - 1;omega,by show b - 1<n;omega,hm⟩,hR⟩ ⟨Rn.rowIs rfl rfl rfl,Rn.is rfl rfl,Rn.fnO rfl rfl rfl,Rn.is (congrArg (AV.i .i64) w1) rfl,Rn.is (congrArg (AV.i .i64) w2) rfl,trivial⟩ (io_end rfl rfl rfl rfl rfl (rfl) (rowFit (by assumption))) fun x hx=>?_
  clear hR hm hn w1 w2
  obtain ⟨⟨i,j⟩,m⟩:=x
  obtain ⟨⟨hi,hij,haj,hj,hm⟩,hG⟩:=hx
  simp only at hi hij haj hj hm hG
  obtain ⟨I,hI⟩:∃I,Go.Sort.scanUp (fun x=>!ltI l L m[a]! x) m j i=I:=⟨_,rfl⟩
  obtain ⟨J,hJ⟩:∃J,Go.Sort.scanDown (fun x=>ltI l L m[a]! x) m I j=J:=⟨_,rfl⟩
  rw [eqLoop_eq hI hJ] at hG
  (repeat first|apply wA|apply wB|apply wC|apply wE|(apply zM;·kernel_rfl))
  refine AW.loopL (ι:=Nat) (fun x=>[(0,.row 201 0 0 n),(1,.i .i64 ((a:Nat):Int)),(4,.fn 223 [.own 210 0 0] []),(11,.i .i64 ((x:Nat):Int)),(12,.i .i64 ((j:Nat):Int))]) (fun _=>gl q [210,201] (ioB l n (m))) (fun x=>(i≤x∧x≤j+2)∧Go.Sort.scanUp (fun x=>!ltI l L m[a]! x) m j x=I) (fun x=>j+1 - x) (i) ⟨by omega,hI⟩ ⟨Rn.rowIs rfl rfl rfl,Rn.is rfl rfl,Rn.fnO rfl rfl rfl,Rn.is rfl rfl,Rn.is rfl rfl,trivial⟩ (io_end rfl rfl rfl rfl rfl (rfl) (rowFit (by assumption))) fun x hx=>?_
  clear hI
  obtain ⟨hx,hf⟩:=hx
  rw [scanUp_eq] at hf
  (repeat first|apply wA|apply wB|apply wC|apply wE|(apply zM;·kernel_rfl))
  refine AW.cutT (ι:=Unit) (fun _=>[(0,.row 201 0 0 n),(1,.i .i64 ((a:Nat):Int)),(4,.fn 223 [.own 210 0 0] []),(11,.i .i64 ((x:Nat):Int)),(12,.i .i64 ((j:Nat):Int)),(47,.b (decide (x≤j) && (!ltI l L m[a]! m[x]!)))]) (fun _=>gl q [210,201] (ioB l n (m))) (fun _=>True) ?_ fun _ _=>?_
  · refine AW.draws mixed_ok ?_
    by_cases g1:((x:Nat):Int)≤((j:Nat):Int)
    · refine RG.runO ty_ok 0 [(33,.b true)] 400 rfl (by repeat' (first|exact trivial|apply And.intro|exact dT ‹_›|exact dF ‹_›|exact dN ‹_›|exact dM ‹_›|exact dI ‹_›)) ?_
      refine wH rfl ?_;refine RG.opS rfl (op_ixW (a) numF ((m).toList) (by omega) rfl (tab_ok ty_ok rfl) rfl (tab_ok ty_ok rfl) rfl rfl rfl (by first | omega | (simp only [IntKind.wrap_i64,Int.ofNat_eq_natCast] <;> omega) | rfl)) rfl ?_;refine RG.opS rfl (op_ldW (a) numF (m) (by omega) rfl (tab_ok ty_ok rfl) rfl rfl rfl) rfl ?_
      refine wH rfl ?_;refine RG.opS rfl (op_ixW (x) numF ((m).toList) (by omega) rfl (tab_ok ty_ok rfl) rfl (tab_ok ty_ok rfl) rfl rfl rfl (by first | omega | (simp only [IntKind.wrap_i64,Int.ofNat_eq_natCast] <;> omega) | rfl)) rfl ?_;refine RG.opS rfl (op_ldW (x) numF (m) (by omega) rfl (tab_ok ty_ok rfl) rfl rfl rfl) rfl ?_
      refine wH rfl ?_
      refine RG.ownK [(210,210),(201,201)] [(210,210),(201,201)] 201 201 rfl (fun q=>m_compare l L hL n (m) (m[a]!) (m[x]!) q (rowFit (by assumption))) rfl rfl rfl rfl rfl rfl rfl rfl rfl rfl rfl rfl rfl ?_
      refine wH rfl ?_;(repeat first|apply wA|apply wB|apply wC|apply wE|(apply zM;·kernel_rfl))
      exact ⟨(),trivial,⟨Rn.rowIs rfl rfl rfl,Rn.is rfl rfl,Rn.fnO rfl rfl rfl,Rn.is rfl rfl,Rn.is rfl rfl,Rn.is (congrArg AV.b (by rw [decide_eq_true (show x≤j by omega),Bool.true_and];rfl)) rfl,trivial⟩,io_end rfl rfl rfl rfl rfl (rfl) (rowFit (by assumption))⟩
    · refine RG.runO ty_ok 0 [(33,.b false)] 400 rfl (by repeat' (first|exact trivial|apply And.intro|exact dT ‹_›|exact dF ‹_›|exact dN ‹_›|exact dM ‹_›|exact dI ‹_›)) ?_
      (repeat first|apply wA|apply wB|apply wC|apply wE|(apply zM;·kernel_rfl))
      exact ⟨(),trivial,⟨Rn.rowIs rfl rfl rfl,Rn.is rfl rfl,Rn.fnO rfl rfl rfl,Rn.is rfl rfl,Rn.is rfl rfl,Rn.is (congrArg AV.b (by rw [decide_eq_false (show ¬x≤j by omega),Bool.false_and])) rfl,trivial⟩,io_end rfl rfl rfl rfl rfl (rfl) (rowFit (by assumption))⟩
  cases hb:(decide (x≤j) && (!ltI l L m[a]! m[x]!))
  rotate_left
  · rw [hb,cond_true] at hf
    have hle:x≤j:=by
      rw [Bool.and_eq_true,decide_eq_true_eq] at hb
      exact hb.1
    have w9:IntKind.i64.wrap (((x:Nat):Int)+Int.ofNat 1)=((x+1:Nat):Int):=by simp only [IntKind.wrap_i64,Int.ofNat_eq_natCast];omega
    refine AW.cond rfl (fun _=>?_) (fun h1=>by cases h1)
    (repeat first|apply wA|apply wB|apply wC|apply wE|(apply zM;·kernel_rfl)|refine zI rfl ?_|refine zJ rfl ?_)
    exact ⟨x+1,⟨⟨by omega,hf⟩,by omega⟩,⟨Rn.rowIs rfl rfl rfl,Rn.is rfl rfl,Rn.fnO rfl rfl rfl,Rn.is (congrArg (AV.i .i64) w9) rfl,Rn.is rfl rfl,trivial⟩,io_end rfl rfl rfl rfl rfl (rfl) (rowFit (by assumption))⟩
  rw [hb,cond_false] at hf
  clear hb
  obtain rfl:I=x:=hf.symm
  refine AW.cond rfl (fun h1=>by cases h1) (fun _=>?_)
  (repeat first|apply wA|apply wB|apply wC|apply wE|(apply zM;·kernel_rfl)|refine zI rfl ?_|refine zJ rfl ?_)
  refine AW.exit ?_;refine Eq.mpr (if_pos rfl) ?_;(repeat first|apply wA|apply wB|apply wC|apply wE|(apply zM;·kernel_rfl)|refine zI rfl ?_|refine zJ rfl ?_)
  refine AW.loopL (ι:=Nat) (fun x=>[(0,.row 201 0 0 n),(1,.i .i64 ((a:Nat):Int)),(4,.fn 223 [.own 210 0 0] []),(11,.i .i64 ((I:Nat):Int)),(12,.i .i64 ((x:Nat):Int))]) (fun _=>gl q [210,201] (ioB l n (m))) (fun x=>(a≤x∧x≤j)∧Go.Sort.scanDown (fun x=>ltI l L m[a]! x) m I x=J) (fun x=>x) (j) ⟨by omega,hJ⟩ ⟨Rn.rowIs rfl rfl rfl,Rn.is rfl rfl,Rn.fnO rfl rfl rfl,Rn.is rfl rfl,Rn.is rfl rfl,trivial⟩ (io_end rfl rfl rfl rfl rfl (rfl) (rowFit (by assumption))) fun x hx=>?_
  clear hJ
  obtain ⟨hy,hf⟩:=hx
  rw [scanDown_eq _ _ (by omega)] at hf
  (repeat first|apply wA|apply wB|apply wC|apply wE|(apply zM;·kernel_rfl))
  refine AW.cutT (ι:=Unit) (fun _=>[(0,.row 201 0 0 n),(1,.i .i64 ((a:Nat):Int)),(4,.fn 223 [.own 210 0 0] []),(11,.i .i64 ((I:Nat):Int)),(12,.i .i64 ((x:Nat):Int)),(65,.b (decide (I≤x) && (ltI l L m[a]! m[x]!)))]) (fun _=>gl q [210,201] (ioB l n (m))) (fun _=>True) ?_ fun _ _=>?_
  · refine AW.draws mixed_ok ?_
    by_cases g1:((I:Nat):Int)≤((x:Nat):Int)
    · refine RG.runO ty_ok 0 [(52,.b true)] 400 rfl (by repeat' (first|exact trivial|apply And.intro|exact dT ‹_›|exact dF ‹_›|exact dN ‹_›|exact dM ‹_›|exact dI ‹_›)) ?_
      refine wH rfl ?_;refine RG.opS rfl (op_ixW (a) numF ((m).toList) (by omega) rfl (tab_ok ty_ok rfl) rfl (tab_ok ty_ok rfl) rfl rfl rfl (by first | omega | (simp only [IntKind.wrap_i64,Int.ofNat_eq_natCast] <;> omega) | rfl)) rfl ?_;refine RG.opS rfl (op_ldW (a) numF (m) (by omega) rfl (tab_ok ty_ok rfl) rfl rfl rfl) rfl ?_
      refine wH rfl ?_;refine RG.opS rfl (op_ixW (x) numF ((m).toList) (by omega) rfl (tab_ok ty_ok rfl) rfl (tab_ok ty_ok rfl) rfl rfl rfl (by first | omega | (simp only [IntKind.wrap_i64,Int.ofNat_eq_natCast] <;> omega) | rfl)) rfl ?_;refine RG.opS rfl (op_ldW (x) numF (m) (by omega) rfl (tab_ok ty_ok rfl) rfl rfl rfl) rfl ?_
      refine wH rfl ?_
      refine RG.ownK [(210,210),(201,201)] [(210,210),(201,201)] 201 201 rfl (fun q=>m_compare l L hL n (m) (m[a]!) (m[x]!) q (rowFit (by assumption))) rfl rfl rfl rfl rfl rfl rfl rfl rfl rfl rfl rfl rfl ?_
      refine wH rfl ?_;(repeat first|apply wA|apply wB|apply wC|apply wE|(apply zM;·kernel_rfl))
      exact ⟨(),trivial,⟨Rn.rowIs rfl rfl rfl,Rn.is rfl rfl,Rn.fnO rfl rfl rfl,Rn.is rfl rfl,Rn.is rfl rfl,Rn.is (congrArg AV.b (by rw [decide_eq_true (show I≤x by omega),Bool.true_and];rfl)) rfl,trivial⟩,io_end rfl rfl rfl rfl rfl (rfl) (rowFit (by assumption))⟩
    · refine RG.runO ty_ok 0 [(52,.b false)] 400 rfl (by repeat' (first|exact trivial|apply And.intro|exact dT ‹_›|exact dF ‹_›|exact dN ‹_›|exact dM ‹_›|exact dI ‹_›)) ?_
      (repeat first|apply wA|apply wB|apply wC|apply wE|(apply zM;·kernel_rfl))
      exact ⟨(),trivial,⟨Rn.rowIs rfl rfl rfl,Rn.is rfl rfl,Rn.fnO rfl rfl rfl,Rn.is rfl rfl,Rn.is rfl rfl,Rn.is (congrArg AV.b (by rw [decide_eq_false (show ¬I≤x by omega),Bool.false_and])) rfl,trivial⟩,io_end rfl rfl rfl rfl rfl (rfl) (rowFit (by assumption))⟩
  cases hb:(decide (I≤x) && (ltI l L m[a]! m[x]!))
  rotate_left
  · rw [hb,cond_true] at hf
    have hle:I≤x:=by
      rw [Bool.and_eq_true,decide_eq_true_eq] at hb
      exact hb.1
    have w9:IntKind.i64.wrap (((x:Nat):Int) - Int.ofNat 1)=((x - 1:Nat):Int):=by simp only [IntKind.wrap_i64,Int.ofNat_eq_natCast];omega
    refine AW.cond rfl (fun _=>?_) (fun h1=>by cases h1)
    (repeat first|apply wA|apply wB|apply wC|apply wE|(apply zM;·kernel_rfl)|refine zI rfl ?_|refine zJ rfl ?_)
    exact ⟨x - 1,⟨⟨by omega,hf⟩,by omega⟩,⟨Rn.rowIs rfl rfl rfl,Rn.is rfl rfl,Rn.fnO rfl rfl rfl,Rn.is rfl rfl,Rn.is (congrArg (AV.i .i64) w9) rfl,trivial⟩,io_end rfl rfl rfl rfl rfl (rfl) (rowFit (by assumption))⟩
  rw [hb,cond_false] at hf
  clear hb
  obtain rfl:J=x:=hf.symm
  refine AW.cond rfl (fun h1=>by cases h1) (fun _=>?_)
  (repeat first|apply wA|apply wB|apply wC|apply wE|(apply zM;·kernel_rfl)|refine zI rfl ?_|refine zJ rfl ?_)
  refine AW.exit ?_;refine Eq.mpr (if_pos rfl) ?_;(repeat first|apply wA|apply wB|apply wC|apply wE|(apply zM;·kernel_rfl)|refine zI rfl ?_|refine zJ rfl ?_)
  refine AW.cond rfl (fun h0=>?_) (fun h0=>?_)
  · have h : I > J := by
      have:=of_decide_eq_true h0
      try simp only at this
      omega
    rw [if_pos h] at hG
    subst hG
    (repeat first|apply wA|apply wB|apply wC|apply wE|(apply zM;·kernel_rfl)|refine zI rfl ?_|refine zJ rfl ?_)
    refine AW.exit ?_;refine Eq.mpr (if_neg (by decide)) ?_;refine Eq.mpr (if_pos rfl) ?_;(repeat first|apply wA|apply wB|apply wC|apply wE|(apply zM;·kernel_rfl)|refine zI rfl ?_|refine zJ rfl ?_)
    exact AW.ret (retM1 rfl (Rm.is rfl rfl) (io_end rfl rfl rfl rfl rfl (rfl) (rowFit (by assumption))))
  have h:¬I>J:=by
    have:=of_decide_eq_false h0
    try simp only at this
    omega
  rw [if_neg h] at hG
  have wI:IntKind.i64.wrap (((I:Nat):Int)+Int.ofNat 1)=((I+1:Nat):Int):=by simp only [IntKind.wrap_i64,Int.ofNat_eq_natCast];omega
  have wJ:IntKind.i64.wrap (((J:Nat):Int) - Int.ofNat 1)=((J - 1:Nat):Int):=by simp only [IntKind.wrap_i64,Int.ofNat_eq_natCast];omega
  have hm2:=(swp_sz m I J).trans hm
  (repeat first|apply wA|apply wB|apply wC|apply wE|(apply zM;·kernel_rfl))
  refine AW.draws mixed_ok ?_
  refine wH rfl ?_;refine RG.opS rfl (op_ixW (J) numF ((m).toList) (by omega) rfl (tab_ok ty_ok rfl) rfl (tab_ok ty_ok rfl) rfl rfl rfl (by first | omega | (simp only [IntKind.wrap_i64,Int.ofNat_eq_natCast] <;> omega) | rfl)) rfl ?_;refine RG.opS rfl (op_ldW (J) numF (m) (by omega) rfl (tab_ok ty_ok rfl) rfl rfl rfl) rfl ?_;refine wH rfl ?_;refine RG.opS rfl (op_ixW (I) numF ((m).toList) (by omega) rfl (tab_ok ty_ok rfl) rfl (tab_ok ty_ok rfl) rfl rfl rfl (by first | omega | (simp only [IntKind.wrap_i64,Int.ofNat_eq_natCast] <;> omega) | rfl)) rfl ?_;refine RG.opS rfl (op_ldW (I) numF (m) (by omega) rfl (tab_ok ty_ok rfl) rfl rfl rfl) rfl ?_;refine wH rfl ?_;refine RG.opS rfl (op_ixW (I) numF ((m).toList) (by omega) rfl (tab_ok ty_ok rfl) rfl (tab_ok ty_ok rfl) rfl rfl rfl (by first | omega | (simp only [IntKind.wrap_i64,Int.ofNat_eq_natCast] <;> omega) | rfl)) rfl ?_;refine RG.opS rfl (op_stW (I) numF ((m).toList) ((m)[J]!) (by simp only [List.length_set,Array.length_toList];omega) rfl (tab_ok ty_ok rfl) rfl rfl rfl rfl rfl (fun _=>rfl)) rfl ?_;refine wH rfl ?_;refine RG.opS rfl (op_ixW (J) numF (((m).toList.set (I) (m)[J]!)) (by omega) rfl (tab_ok ty_ok rfl) rfl (tab_ok ty_ok rfl) rfl rfl rfl (by first | omega | (simp only [IntKind.wrap_i64,Int.ofNat_eq_natCast] <;> omega) | rfl)) rfl ?_;refine RG.opS rfl (op_stW (J) numF (((m).toList.set (I) (m)[J]!)) ((m)[I]!) (by simp only [List.length_set,Array.length_toList];omega) rfl (tab_ok ty_ok rfl) rfl rfl rfl rfl rfl (fun _=>rfl)) rfl ?_
  refine wH rfl ?_;(repeat first|apply wA|apply wB|apply wC|apply wE|(apply zM;·kernel_rfl)|refine zI rfl ?_|refine zJ rfl ?_)
  exact ⟨((I+1,J - 1),swp m I J),⟨⟨⟨by show a<I+1;omega,by show I+1≤J - 1+2;omega,by show a≤J - 1;omega,by show J - 1<n;omega,hm2⟩,hG⟩,by show J - 1+1 - (I+1)<j+1 - i;omega⟩,⟨Rn.rowTIs rfl rfl rfl (rowFit (hm2)),Rn.is rfl rfl,Rn.fnO rfl rfl rfl,Rn.is (congrArg (AV.i .i64) wI) rfl,Rn.is (congrArg (AV.i .i64) wJ) rfl,trivial⟩,io_end rfl rfl rfl rfl rfl (by rw [swp_list]) (rowFit (by assumption))⟩
end Go.Proofs.YtahjjfhjjbgjaaaGreat.Sm
end
section
namespace Go.Proofs.YtahjjfhjjbgjaaaGreat.Sm
open Go.RowKit
open Go.Sort (swp)
theorem AW.cutB {P:Program} {N:Nat} {Q:Exit→St→Prop} {s:St} {x y:Code} {id:Nat} {ι:Type} (T:ι→List (Nat × AV)) (B:ι→List (Nat × SB)) (J:ι→Prop) (h1:AW P N x (thenA (fun s'=>∃i,J i∧WkT s' (lkB (B i)) (T i)∧WkB s' (lkB (B i)) (B i)) (inBlkA id (thenA (AW P N y Q) Q))) s)
  (h2:∀i,J i→AW P N y Q (stL (T i) (B i))):AW P N x (inBlkA id (thenA (AW P N y Q) Q)) s :=
 h1.mono fun e s' hq=>by
  cases e with
  | normal =>
   obtain ⟨i,hJ,ht,hB⟩:=hq
   exact AW.only _ _ ht hB (h2 i hJ)
  | _=>exact hq
section
variable {α : Type} [Inhabited α] {lt : α → α → Bool}
theorem scanSorted_eq (d:Array α) (b i:Nat):Go.Sort.scanSorted lt d b i=bif (decide (i<b) && !lt d[i]! d[i - 1]!) then Go.Sort.scanSorted lt d b (i+1) else i:=by
 rw [Go.Sort.scanSorted]
 cases (decide (i<b) && !lt d[i]! d[i - 1]!)
 ·rw [if_neg (by simp)];rfl
 ·rw [if_pos rfl];rfl
theorem shiftDown_sz:∀(j:Nat) (d:Array α),(Go.Sort.shiftDown lt j d).size=d.size
 | 0,d=>rfl
 | j+1,d=>by
  rw [Go.Sort.shiftDown]
  split
  ·rfl
  ·rw [shiftDown_sz j,swp_sz]
theorem shiftUp_sz (b:Nat):∀(f j:Nat) (d:Array α),b - j≤f→(Go.Sort.shiftUp lt b j d).size=d.size
 | 0,j,d,hf=>by rw [Go.Sort.shiftUp,if_neg (by omega)]
 | f+1,j,d,hf=>by
  rw [Go.Sort.shiftUp]
  split
  ·split
   ·rfl
   ·rw [shiftUp_sz b f _ _ (by omega),swp_sz]
  ·rfl
def pi1 (lt:α→α→Bool) (a i:Nat) (d:Array α):Array α:=bif decide (i - a≥2) then Go.Sort.shiftDown lt (i - 1) d else d
def pi2 (lt:α→α→Bool) (b i:Nat) (d:Array α):Array α:=bif decide (b - i≥2) then Go.Sort.shiftUp lt b (i+1) d else d
theorem pi1_sz {a i:Nat} {d:Array α}:(pi1 lt a i d).size=d.size:=by
 rw [pi1]
 cases decide (i - a≥2)
 ·rfl
 ·exact shiftDown_sz _ _
theorem pi2_sz {b i:Nat} {d:Array α}:(pi2 lt b i d).size=d.size:=by
 rw [pi2]
 cases decide (b - i≥2)
 ·rfl
 ·exact shiftUp_sz _ _ _ _ (Nat.le_refl _)
theorem pi_eq {a b s i I:Nat} {d:Array α} (hI:Go.Sort.scanSorted lt d b i=I):Go.Sort.partialIns lt a b (s+1) i d=if I=b then (d,true) else if b - a<50 then (d,false) else Go.Sort.partialIns lt a b s I (pi2 lt b I (pi1 lt a I (swp d I (I - 1)))):=by
 subst hI
 rw [Go.Sort.partialIns]
 simp only [pi1,pi2,Bool.cond_decide]
end
theorem m_pins (l:List Rl) (L:Nat) (hL:l.length=L+1) (n:Nat) (hl:n≤100000) (d:Array (Fin (L+1))) (hn:d.size=n) (a b:Nat) (ha:a<b) (hb:b≤n) (q:Nat→Option (Nat × Nat)):MDoes Tryz.prog 237 [.row 201 0 0 n,.i .i64 ((a:Nat):Int),.i .i64 ((b:Nat):Int),.fn 223 [.own 210 0 0] []] (gl q [210,201] (ioB l n (d))) (.b (Go.Sort.partialInsertionSort (ltI l L) d a b).2) (gl q [210,201] (ioB l n ((Go.Sort.partialInsertionSort (ltI l L) d a b).1))):=by
  refine MDoes.of_body Tryz.func237 rfl (by kernel_rfl) rfl rfl ?_
  obtain ⟨R,hR⟩:∃R,Go.Sort.partialInsertionSort (ltI l L) d a b=R:=⟨_,rfl⟩
  rw [hR]
  rw [Go.Sort.partialInsertionSort] at hR
  have w1:IntKind.i64.wrap (((a:Nat):Int)+Int.ofNat 1)=((a+1:Nat):Int):=by simp only [IntKind.wrap_i64,Int.ofNat_eq_natCast];omega
  (repeat first|apply wA|apply wB|apply wC|apply wE|(apply zM;·kernel_rfl)|refine zI rfl ?_|refine zJ rfl ?_)
  refine AW.loopL (ι:=(Nat × Nat) × Array (Fin (L+1))) (fun x=>[(0,.row 201 0 0 n),(1,.i .i64 ((a:Nat):Int)),(2,.i .i64 ((b:Nat):Int)),(3,.fn 223 [.own 210 0 0] []),(9,.i .i64 ((x.1.1:Nat):Int)),(10,.i .i64 ((x.1.2:Nat):Int))]) (fun x=>gl q [210,201] (ioB l n (x.2))) (fun x=>(a<x.1.1∧x.1.1≤b∧x.1.2≤5∧x.2.size=n)∧Go.Sort.partialIns (ltI l L) a b (5 - x.1.2) x.1.1 x.2=R) (fun x=>5 - x.1.2) ((a+1,0),d) ⟨⟨by show a<a+1;omega,by show a+1≤b;omega,by show 0≤5;omega,hn⟩,hR⟩ ⟨Rn.rowIs rfl rfl rfl,Rn.is rfl rfl,Rn.is rfl rfl,Rn.fnO rfl rfl rfl,Rn.is (congrArg (AV.i .i64) w1) rfl,Rn.is rfl rfl,trivial⟩ (io_end rfl rfl rfl rfl rfl (rfl) (rowFit (by assumption))) fun x hx=>?_
  clear hR hn w1
  obtain ⟨⟨i,st⟩,m⟩:=x
  obtain ⟨⟨hi,hib,hst,hm⟩,hG⟩:=hx
  simp only at hi hib hst hm hG
  (repeat first|apply wA|apply wB|apply wC|apply wE|(apply zM;·kernel_rfl)|refine zI rfl ?_|refine zJ rfl ?_)
  refine AW.cond rfl (fun h0=>?_) (fun h0=>?_)
  rotate_left
  · have h : st = 5 := by
      have:=of_decide_eq_false h0
      simp only [Int.ofNat_eq_natCast] at this
      omega
    subst h
    have hG:(m,false)=R:=hG
    subst hG
    (repeat first|apply wA|apply wB|apply wC|apply wE|(apply zM;·kernel_rfl)|refine zI rfl ?_|refine zJ rfl ?_)
    refine AW.exit ?_;refine Eq.mpr (if_pos rfl) ?_;(repeat first|apply wA|apply wB|apply wC|apply wE|(apply zM;·kernel_rfl)|refine zI rfl ?_|refine zJ rfl ?_)
    exact AW.ret (retM1 rfl (Rm.is rfl rfl) (io_end rfl rfl rfl rfl rfl (rfl) (rowFit (by assumption))))
  have h:st<5:=by
    have:=of_decide_eq_true h0
    simp only [Int.ofNat_eq_natCast] at this
    omega
  obtain ⟨I,hI⟩:∃I,Go.Sort.scanSorted (ltI l L) m b i=I:=⟨_,rfl⟩
  rw [show 5 - st=(5 - (st+1))+1 by omega,pi_eq hI] at hG
  (repeat first|apply wA|apply wB|apply wC|apply wE|(apply zM;·kernel_rfl))
  refine AW.loopL (ι:=Nat) (fun x=>[(0,.row 201 0 0 n),(1,.i .i64 ((a:Nat):Int)),(2,.i .i64 ((b:Nat):Int)),(3,.fn 223 [.own 210 0 0] []),(9,.i .i64 ((x:Nat):Int)),(10,.i .i64 ((st:Nat):Int))]) (fun _=>gl q [210,201] (ioB l n (m))) (fun x=>(i≤x∧x≤b)∧Go.Sort.scanSorted (ltI l L) m b x=I) (fun x=>b - x) i ⟨by omega,hI⟩ ⟨Rn.rowIs rfl rfl rfl,Rn.is rfl rfl,Rn.is rfl rfl,Rn.fnO rfl rfl rfl,Rn.is rfl rfl,Rn.is rfl rfl,trivial⟩ (io_end rfl rfl rfl rfl rfl (rfl) (rowFit (by assumption))) fun x hx=>?_
  clear hI
  obtain ⟨hx,hf⟩:=hx
  rw [scanSorted_eq] at hf
  (repeat first|apply wA|apply wB|apply wC|apply wE|(apply zM;·kernel_rfl))
  refine AW.cutT (ι:=Unit) (fun _=>[(0,.row 201 0 0 n),(1,.i .i64 ((a:Nat):Int)),(2,.i .i64 ((b:Nat):Int)),(3,.fn 223 [.own 210 0 0] []),(9,.i .i64 ((x:Nat):Int)),(10,.i .i64 ((st:Nat):Int)),(36,.b (decide (x<b) && (!ltI l L m[x]! m[x - 1]!)))]) (fun _=>gl q [210,201] (ioB l n (m))) (fun _=>True) ?_ fun _ _=>?_
  · refine AW.draws mixed_ok ?_
    by_cases g1:((x:Nat):Int)<((b:Nat):Int)
    · refine RG.runO ty_ok 0 [(21,.b true)] 400 rfl (by repeat' (first|exact trivial|apply And.intro|exact dT ‹_›|exact dF ‹_›|exact dN ‹_›|exact dM ‹_›|exact dI ‹_›)) ?_
      refine wH rfl ?_;refine RG.opS rfl (op_ixW (x) numF ((m).toList) (by omega) rfl (tab_ok ty_ok rfl) rfl (tab_ok ty_ok rfl) rfl rfl rfl (by first | omega | (simp only [IntKind.wrap_i64,Int.ofNat_eq_natCast] <;> omega) | rfl)) rfl ?_;refine RG.opS rfl (op_ldW (x) numF (m) (by omega) rfl (tab_ok ty_ok rfl) rfl rfl rfl) rfl ?_
      refine wH rfl ?_;refine RG.opS rfl (op_ixW (x - 1) numF ((m).toList) (by omega) rfl (tab_ok ty_ok rfl) rfl (tab_ok ty_ok rfl) rfl rfl rfl (by first | omega | (simp only [IntKind.wrap_i64,Int.ofNat_eq_natCast] <;> omega) | rfl)) rfl ?_;refine RG.opS rfl (op_ldW (x - 1) numF (m) (by omega) rfl (tab_ok ty_ok rfl) rfl rfl rfl) rfl ?_
      refine wH rfl ?_
      refine RG.ownK [(210,210),(201,201)] [(210,210),(201,201)] 201 201 rfl (fun q=>m_compare l L hL n (m) (m[x]!) (m[x - 1]!) q (rowFit (by assumption))) rfl rfl rfl rfl rfl rfl rfl rfl rfl rfl rfl rfl rfl ?_
      refine wH rfl ?_;(repeat first|apply wA|apply wB|apply wC|apply wE|(apply zM;·kernel_rfl))
      exact ⟨(),trivial,⟨Rn.rowIs rfl rfl rfl,Rn.is rfl rfl,Rn.is rfl rfl,Rn.fnO rfl rfl rfl,Rn.is rfl rfl,Rn.is rfl rfl,Rn.is (congrArg AV.b (by rw [decide_eq_true (show x<b by omega),Bool.true_and];rfl)) rfl,trivial⟩,io_end rfl rfl rfl rfl rfl (rfl) (rowFit (by assumption))⟩
    · refine RG.runO ty_ok 0 [(21,.b false)] 400 rfl (by repeat' (first|exact trivial|apply And.intro|exact dT ‹_›|exact dF ‹_›|exact dN ‹_›|exact dM ‹_›|exact dI ‹_›)) ?_
      (repeat first|apply wA|apply wB|apply wC|apply wE|(apply zM;·kernel_rfl))
      exact ⟨(),trivial,⟨Rn.rowIs rfl rfl rfl,Rn.is rfl rfl,Rn.is rfl rfl,Rn.fnO rfl rfl rfl,Rn.is rfl rfl,Rn.is rfl rfl,Rn.is (congrArg AV.b (by rw [decide_eq_false (show ¬x<b by omega),Bool.false_and])) rfl,trivial⟩,io_end rfl rfl rfl rfl rfl (rfl) (rowFit (by assumption))⟩
  cases hcb:(decide (x<b) && (!ltI l L m[x]! m[x - 1]!))
  rotate_left
  · rw [hcb,cond_true] at hf
    have hle:x<b:=by
      rw [Bool.and_eq_true,decide_eq_true_eq] at hcb
      exact hcb.1
    have w9:IntKind.i64.wrap (((x:Nat):Int)+Int.ofNat 1)=((x+1:Nat):Int):=by simp only [IntKind.wrap_i64,Int.ofNat_eq_natCast];omega
    refine AW.cond rfl (fun _=>?_) (fun h1=>by cases h1)
    (repeat first|apply wA|apply wB|apply wC|apply wE|(apply zM;·kernel_rfl)|refine zI rfl ?_|refine zJ rfl ?_)
    exact ⟨x+1,⟨⟨by omega,hf⟩,by omega⟩,⟨Rn.rowIs rfl rfl rfl,Rn.is rfl rfl,Rn.is rfl rfl,Rn.fnO rfl rfl rfl,Rn.is (congrArg (AV.i .i64) w9) rfl,Rn.is rfl rfl,trivial⟩,io_end rfl rfl rfl rfl rfl (rfl) (rowFit (by assumption))⟩
  rw [hcb,cond_false] at hf
  clear hcb
  obtain rfl:I=x:=hf.symm
  refine AW.cond rfl (fun h1=>by cases h1) (fun _=>?_)
  (repeat first|apply wA|apply wB|apply wC|apply wE|(apply zM;·kernel_rfl)|refine zI rfl ?_|refine zJ rfl ?_)
  refine AW.exit ?_;refine Eq.mpr (if_pos rfl) ?_;(repeat first|apply wA|apply wB|apply wC|apply wE|(apply zM;·kernel_rfl)|refine zI rfl ?_|refine zJ rfl ?_)
  refine AW.cond rfl (fun h1=>?_) (fun h1=>?_)
  · have k : I = b := by
      have:=of_decide_eq_true h1
      omega
    rw [if_pos k] at hG
    subst hG
    (repeat first|apply wA|apply wB|apply wC|apply wE|(apply zM;·kernel_rfl)|refine zI rfl ?_|refine zJ rfl ?_)
    exact AW.ret (retM1 rfl (Rm.is rfl rfl) (io_end rfl rfl rfl rfl rfl (rfl) (rowFit (by assumption))))
  have k:¬I=b:=by
    have:=of_decide_eq_false h1
    omega
  rw [if_neg k] at hG
  have wl:IntKind.i64.wrap (((b:Nat):Int) - ((a:Nat):Int))=((b - a:Nat):Int):=by rw [IntKind.wrap_i64];omega
  (repeat first|apply wA|apply wB|apply wC|apply wE|(apply zM;·kernel_rfl))
  refine AW.text ?_
  refine RG.runO ty_ok 0 [(44,.i .i64 ((b - a:Nat):Int))] 400 rfl (by repeat' (first|exact trivial|apply And.intro|exact dT ‹_›|exact dF ‹_›|exact dN ‹_›|exact dM ‹_›|exact dI ‹_›)) ?_
  (repeat first|apply wA|apply wB|apply wC|apply wE|(apply zM;·kernel_rfl))
  refine AW.cond rfl (fun h2=>?_) (fun h2=>?_)
  · have k2 : b - a < 50 := by
      have:=of_decide_eq_true h2
      simp only [Int.ofNat_eq_natCast] at this
      omega
    rw [if_pos k2] at hG
    subst hG
    (repeat first|apply wA|apply wB|apply wC|apply wE|(apply zM;·kernel_rfl)|refine zI rfl ?_|refine zJ rfl ?_)
    exact AW.ret (retM1 rfl (Rm.is rfl rfl) (io_end rfl rfl rfl rfl rfl (rfl) (rowFit (by assumption))))
  have k2:¬b - a<50:=by
    have:=of_decide_eq_false h2
    simp only [Int.ofNat_eq_natCast] at this
    omega
  rw [if_neg k2] at hG
  (repeat first|apply wA|apply wB|apply wC|apply wE|(apply zM;·kernel_rfl))
  refine AW.draws mixed_ok ?_
  refine wH rfl ?_;refine RG.opS rfl (op_ixW (I - 1) numF ((m).toList) (by omega) rfl (tab_ok ty_ok rfl) rfl (tab_ok ty_ok rfl) rfl rfl rfl (by first | omega | (simp only [IntKind.wrap_i64,Int.ofNat_eq_natCast] <;> omega) | rfl)) rfl ?_;refine RG.opS rfl (op_ldW (I - 1) numF (m) (by omega) rfl (tab_ok ty_ok rfl) rfl rfl rfl) rfl ?_;refine wH rfl ?_;refine RG.opS rfl (op_ixW (I) numF ((m).toList) (by omega) rfl (tab_ok ty_ok rfl) rfl (tab_ok ty_ok rfl) rfl rfl rfl (by first | omega | (simp only [IntKind.wrap_i64,Int.ofNat_eq_natCast] <;> omega) | rfl)) rfl ?_;refine RG.opS rfl (op_ldW (I) numF (m) (by omega) rfl (tab_ok ty_ok rfl) rfl rfl rfl) rfl ?_;refine wH rfl ?_;refine RG.opS rfl (op_ixW (I) numF ((m).toList) (by omega) rfl (tab_ok ty_ok rfl) rfl (tab_ok ty_ok rfl) rfl rfl rfl (by first | omega | (simp only [IntKind.wrap_i64,Int.ofNat_eq_natCast] <;> omega) | rfl)) rfl ?_;refine RG.opS rfl (op_stW (I) numF ((m).toList) ((m)[I - 1]!) (by simp only [List.length_set,Array.length_toList];omega) rfl (tab_ok ty_ok rfl) rfl rfl rfl rfl rfl (fun _=>rfl)) rfl ?_;refine wH rfl ?_;refine RG.opS rfl (op_ixW (I - 1) numF (((m).toList.set (I) (m)[I - 1]!)) (by omega) rfl (tab_ok ty_ok rfl) rfl (tab_ok ty_ok rfl) rfl rfl rfl (by first | omega | (simp only [IntKind.wrap_i64,Int.ofNat_eq_natCast] <;> omega) | rfl)) rfl ?_;refine RG.opS rfl (op_stW (I - 1) numF (((m).toList.set (I) (m)[I - 1]!)) ((m)[I]!) (by simp only [List.length_set,Array.length_toList];omega) rfl (tab_ok ty_ok rfl) rfl rfl rfl rfl rfl (fun _=>rfl)) rfl ?_
  rw [← swp_list]
  have hm0:=(swp_sz m I (I - 1)).trans hm
  generalize swp m I (I - 1)=m0 at hG hm0 ⊢
  refine wH rfl ?_;(repeat first|apply wA|apply wB|apply wC|apply wE|(apply zM;·kernel_rfl)|refine zI rfl ?_|refine zJ rfl ?_)
  have wIa:IntKind.i64.wrap (((I:Nat):Int) - ((a:Nat):Int))=((I - a:Nat):Int):=by rw [IntKind.wrap_i64];omega
  obtain ⟨m1,e1⟩:∃z,pi1 (ltI l L) a I m0=z:=⟨_,rfl⟩
  have hm1:m1.size=n:=by rw [← e1,pi1_sz];exact hm0
  rw [e1] at hG
  rw [pi1] at e1
  refine AW.cutT (ι:=Unit) (fun _=>[(0,.row 201 0 0 n),(1,.i .i64 ((a:Nat):Int)),(2,.i .i64 ((b:Nat):Int)),(3,.fn 223 [.own 210 0 0] []),(9,.i .i64 ((I:Nat):Int)),(10,.i .i64 ((st:Nat):Int))]) (fun _=>gl q [210,201] (ioB l n (m1))) (fun _=>True) ?_ fun _ _=>?_
  · refine AW.cond rfl (fun h3=>?_) (fun h3=>?_)
    rotate_left
    · have k3 : ¬ I - a ≥ 2 := by
        have:=of_decide_eq_false h3
        simp only [Int.ofNat_eq_natCast] at this
        rw [wIa] at this
        omega
      rw [decide_eq_false k3,cond_false] at e1
      subst e1
      (repeat first|apply wA|apply wB|apply wC|apply wE|(apply zM;·kernel_rfl)|refine zI rfl ?_|refine zJ rfl ?_)
      exact ⟨(),trivial,⟨Rn.rowIs rfl rfl rfl,Rn.is rfl rfl,Rn.is rfl rfl,Rn.fnO rfl rfl rfl,Rn.is rfl rfl,Rn.is rfl rfl,trivial⟩,io_end rfl rfl rfl rfl rfl (rfl) (rowFit (by assumption))⟩
    have k3:I - a≥2:=by
      have:=of_decide_eq_true h3
      simp only [Int.ofNat_eq_natCast] at this
      rw [wIa] at this
      omega
    rw [decide_eq_true k3,cond_true] at e1
    have wj:IntKind.i64.wrap (((I:Nat):Int) - Int.ofNat 1)=((I - 1:Nat):Int):=by simp only [IntKind.wrap_i64,Int.ofNat_eq_natCast];omega
    (repeat first|apply wA|apply wB|apply wC|apply wE|(apply zM;·kernel_rfl)|refine zI rfl ?_|refine zJ rfl ?_)
    refine AW.loopL (ι:=Nat × Array (Fin (L+1))) (fun x=>[(0,.row 201 0 0 n),(1,.i .i64 ((a:Nat):Int)),(2,.i .i64 ((b:Nat):Int)),(3,.fn 223 [.own 210 0 0] []),(9,.i .i64 ((I:Nat):Int)),(10,.i .i64 ((st:Nat):Int)),(11,.i .i64 ((x.1:Nat):Int))]) (fun x=>gl q [210,201] (ioB l n (x.2))) (fun x=>(x.1<I∧x.2.size=n)∧Go.Sort.shiftDown (ltI l L) x.1 x.2=m1) (fun x=>x.1) (I - 1,m0) ⟨⟨by show I - 1<I;omega,hm0⟩,e1⟩ ⟨Rn.rowIs rfl rfl rfl,Rn.is rfl rfl,Rn.is rfl rfl,Rn.fnO rfl rfl rfl,Rn.is rfl rfl,Rn.is rfl rfl,Rn.is (congrArg (AV.i .i64) wj) rfl,trivial⟩ (io_end rfl rfl rfl rfl rfl (rfl) (rowFit (by assumption))) fun x hx=>?_
    clear e1 wj
    obtain ⟨j,v⟩:=x
    obtain ⟨⟨hj,hv⟩,hs⟩:=hx
    simp only at hj hv hs
    (repeat first|apply wA|apply wB|apply wC|apply wE|(apply zM;·kernel_rfl)|refine zI rfl ?_|refine zJ rfl ?_)
    refine AW.cond rfl (fun h4=>?_) (fun h4=>?_)
    rotate_left
    · have k4 : j = 0 := by
        have:=of_decide_eq_false h4
        simp only [Int.ofNat_eq_natCast] at this
        omega
      subst k4
      have hs:v=m1:=hs
      subst hs
      (repeat first|apply wA|apply wB|apply wC|apply wE|(apply zM;·kernel_rfl)|refine zI rfl ?_|refine zJ rfl ?_)
      refine AW.exit ?_;refine Eq.mpr (if_pos rfl) ?_;(repeat first|apply wA|apply wB|apply wC|apply wE|(apply zM;·kernel_rfl)|refine zI rfl ?_|refine zJ rfl ?_)
      exact ⟨(),trivial,⟨Rn.rowIs rfl rfl rfl,Rn.is rfl rfl,Rn.is rfl rfl,Rn.fnO rfl rfl rfl,Rn.is rfl rfl,Rn.is rfl rfl,trivial⟩,io_end rfl rfl rfl rfl rfl (rfl) (rowFit (by assumption))⟩
    have k4:0<j:=by
      have:=of_decide_eq_true h4
      simp only [Int.ofNat_eq_natCast] at this
      omega
    obtain ⟨j,rfl⟩:∃z,j=z+1:=⟨j - 1,by omega⟩
    rw [Go.Sort.shiftDown] at hs
    have wk:IntKind.i64.wrap (((j+1:Nat):Int) - Int.ofNat 1)=((j:Nat):Int):=by simp only [IntKind.wrap_i64,Int.ofNat_eq_natCast];omega
    (repeat first|apply wA|apply wB|apply wC|apply wE|(apply zM;·kernel_rfl))
    refine AW.draws mixed_ok ?_
    refine wH rfl ?_;refine RG.opS rfl (op_ixW (j+1) numF ((v).toList) (by omega) rfl (tab_ok ty_ok rfl) rfl (tab_ok ty_ok rfl) rfl rfl rfl (by first | omega | (simp only [IntKind.wrap_i64,Int.ofNat_eq_natCast] <;> omega) | rfl)) rfl ?_;refine RG.opS rfl (op_ldW (j+1) numF (v) (by omega) rfl (tab_ok ty_ok rfl) rfl rfl rfl) rfl ?_
    refine wH rfl ?_;refine RG.opS rfl (op_ixW (j) numF ((v).toList) (by omega) rfl (tab_ok ty_ok rfl) rfl (tab_ok ty_ok rfl) rfl rfl rfl (by first | omega | (simp only [IntKind.wrap_i64,Int.ofNat_eq_natCast] <;> omega) | rfl)) rfl ?_;refine RG.opS rfl (op_ldW (j) numF (v) (by omega) rfl (tab_ok ty_ok rfl) rfl rfl rfl) rfl ?_
    refine wH rfl ?_
    refine RG.ownK [(210,210),(201,201)] [(210,210),(201,201)] 201 201 rfl (fun q=>m_compare l L hL n (v) (v[j+1]!) (v[j]!) q (rowFit (by assumption))) rfl rfl rfl rfl rfl rfl rfl rfl rfl rfl rfl rfl rfl ?_
    refine wH rfl ?_;(repeat first|apply wA|apply wB|apply wC|apply wE|(apply zM;·kernel_rfl))
    refine AW.cond rfl (fun h5=>?_) (fun h5=>?_)
    · rw [if_pos (show (!ltI l L v[j+1]! v[j]!)=true from h5)] at hs
      subst hs
      (repeat first|apply wA|apply wB|apply wC|apply wE|(apply zM;·kernel_rfl)|refine zI rfl ?_|refine zJ rfl ?_)
      refine AW.exit ?_;first | (refine Eq.mpr (if_pos rfl) ?_) | (refine Eq.mpr (if_neg (by decide)) ?_;refine Eq.mpr (if_pos rfl) ?_) | (refine Eq.mpr (if_neg (by decide)) ?_;refine Eq.mpr (if_neg (by decide)) ?_;refine Eq.mpr (if_pos rfl) ?_);(repeat first|apply wA|apply wB|apply wC|apply wE|(apply zM;·kernel_rfl)|refine zI rfl ?_|refine zJ rfl ?_)
      exact ⟨(),trivial,⟨Rn.rowIs rfl rfl rfl,Rn.is rfl rfl,Rn.is rfl rfl,Rn.fnO rfl rfl rfl,Rn.is rfl rfl,Rn.is rfl rfl,trivial⟩,io_end rfl rfl rfl rfl rfl (rfl) (rowFit (by assumption))⟩
    · rw [if_neg (by rw [show (!ltI l L v[j+1]! v[j]!)=false from h5];decide)] at hs
      have hv2:=(swp_sz v (j+1) j).trans hv
      (repeat first|apply wA|apply wB|apply wC|apply wE|(apply zM;·kernel_rfl))
      refine AW.draws mixed_ok ?_
      refine wH rfl ?_;refine RG.opS rfl (op_ixW (j) numF ((v).toList) (by omega) rfl (tab_ok ty_ok rfl) rfl (tab_ok ty_ok rfl) rfl rfl rfl (by first | omega | (simp only [IntKind.wrap_i64,Int.ofNat_eq_natCast] <;> omega) | rfl)) rfl ?_;refine RG.opS rfl (op_ldW (j) numF (v) (by omega) rfl (tab_ok ty_ok rfl) rfl rfl rfl) rfl ?_;refine wH rfl ?_;refine RG.opS rfl (op_ixW (j+1) numF ((v).toList) (by omega) rfl (tab_ok ty_ok rfl) rfl (tab_ok ty_ok rfl) rfl rfl rfl (by first | omega | (simp only [IntKind.wrap_i64,Int.ofNat_eq_natCast] <;> omega) | rfl)) rfl ?_;refine RG.opS rfl (op_ldW (j+1) numF (v) (by omega) rfl (tab_ok ty_ok rfl) rfl rfl rfl) rfl ?_;refine wH rfl ?_;refine RG.opS rfl (op_ixW (j+1) numF ((v).toList) (by omega) rfl (tab_ok ty_ok rfl) rfl (tab_ok ty_ok rfl) rfl rfl rfl (by first | omega | (simp only [IntKind.wrap_i64,Int.ofNat_eq_natCast] <;> omega) | rfl)) rfl ?_;refine RG.opS rfl (op_stW (j+1) numF ((v).toList) ((v)[j]!) (by simp only [List.length_set,Array.length_toList];omega) rfl (tab_ok ty_ok rfl) rfl rfl rfl rfl rfl (fun _=>rfl)) rfl ?_;refine wH rfl ?_;refine RG.opS rfl (op_ixW (j) numF (((v).toList.set (j+1) (v)[j]!)) (by omega) rfl (tab_ok ty_ok rfl) rfl (tab_ok ty_ok rfl) rfl rfl rfl (by first | omega | (simp only [IntKind.wrap_i64,Int.ofNat_eq_natCast] <;> omega) | rfl)) rfl ?_;refine RG.opS rfl (op_stW (j) numF (((v).toList.set (j+1) (v)[j]!)) ((v)[j+1]!) (by simp only [List.length_set,Array.length_toList];omega) rfl (tab_ok ty_ok rfl) rfl rfl rfl rfl rfl (fun _=>rfl)) rfl ?_
      refine wH rfl ?_;(repeat first|apply wA|apply wB|apply wC|apply wE|(apply zM;·kernel_rfl))
      refine AW.text ?_
      refine wH rfl ?_;(repeat first|apply wA|apply wB|apply wC|apply wE|(apply zM;·kernel_rfl))
      exact ⟨(j,swp v (j+1) j),⟨⟨⟨by show j<I;omega,hv2⟩,hs⟩,by show j<j+1;omega⟩,⟨Rn.rowTIs rfl rfl rfl (rowFit (hv2)),Rn.is rfl rfl,Rn.is rfl rfl,Rn.fnO rfl rfl rfl,Rn.is rfl rfl,Rn.is rfl rfl,Rn.is (congrArg (AV.i .i64) wk) rfl,trivial⟩,io_end rfl rfl rfl rfl rfl (by rw [swp_list]) (rowFit (by assumption))⟩
  have wbI:IntKind.i64.wrap (((b:Nat):Int) - ((I:Nat):Int))=((b - I:Nat):Int):=by rw [IntKind.wrap_i64];omega
  obtain ⟨m2,e2⟩:∃z,pi2 (ltI l L) b I m1=z:=⟨_,rfl⟩
  have hm2:m2.size=n:=by rw [← e2,pi2_sz];exact hm1
  rw [e2] at hG
  rw [pi2] at e2
  (repeat first|apply wA|apply wB|apply wC|apply wE|(apply zM;·kernel_rfl)|refine zI rfl ?_|refine zJ rfl ?_)
  refine AW.cutB (ι:=Unit) (fun _=>[(0,.row 201 0 0 n),(1,.i .i64 ((a:Nat):Int)),(2,.i .i64 ((b:Nat):Int)),(3,.fn 223 [.own 210 0 0] []),(9,.i .i64 ((I:Nat):Int)),(10,.i .i64 ((st:Nat):Int))]) (fun _=>gl q [210,201] (ioB l n (m2))) (fun _=>True) ?_ fun _ _=>?_
  · refine AW.cond rfl (fun h3=>?_) (fun h3=>?_)
    rotate_left
    · have k3 : ¬ b - I ≥ 2 := by
        have:=of_decide_eq_false h3
        simp only [Int.ofNat_eq_natCast] at this
        rw [wbI] at this
        omega
      rw [decide_eq_false k3,cond_false] at e2
      subst e2
      (repeat first|apply wA|apply wB|apply wC|apply wE|(apply zM;·kernel_rfl)|refine zI rfl ?_|refine zJ rfl ?_)
      exact ⟨(),trivial,⟨Rn.rowIs rfl rfl rfl,Rn.is rfl rfl,Rn.is rfl rfl,Rn.fnO rfl rfl rfl,Rn.is rfl rfl,Rn.is rfl rfl,trivial⟩,io_end rfl rfl rfl rfl rfl (rfl) (rowFit (by assumption))⟩
    have k3:b - I≥2:=by
      have:=of_decide_eq_true h3
      simp only [Int.ofNat_eq_natCast] at this
      rw [wbI] at this
      omega
    rw [decide_eq_true k3,cond_true] at e2
    have wj:IntKind.i64.wrap (((I:Nat):Int)+Int.ofNat 1)=((I+1:Nat):Int):=by simp only [IntKind.wrap_i64,Int.ofNat_eq_natCast];omega
    (repeat first|apply wA|apply wB|apply wC|apply wE|(apply zM;·kernel_rfl)|refine zI rfl ?_|refine zJ rfl ?_)
    refine AW.loopL (ι:=Nat × Array (Fin (L+1))) (fun x=>[(0,.row 201 0 0 n),(1,.i .i64 ((a:Nat):Int)),(2,.i .i64 ((b:Nat):Int)),(3,.fn 223 [.own 210 0 0] []),(9,.i .i64 ((I:Nat):Int)),(10,.i .i64 ((st:Nat):Int)),(12,.i .i64 ((x.1:Nat):Int))]) (fun x=>gl q [210,201] (ioB l n (x.2))) (fun x=>(I<x.1∧x.1≤b∧x.2.size=n)∧Go.Sort.shiftUp (ltI l L) b x.1 x.2=m2) (fun x=>b - x.1) (I+1,m1) ⟨⟨by show I<I+1;omega,by show I+1≤b;omega,hm1⟩,e2⟩ ⟨Rn.rowIs rfl rfl rfl,Rn.is rfl rfl,Rn.is rfl rfl,Rn.fnO rfl rfl rfl,Rn.is rfl rfl,Rn.is rfl rfl,Rn.is (congrArg (AV.i .i64) wj) rfl,trivial⟩ (io_end rfl rfl rfl rfl rfl (rfl) (rowFit (by assumption))) fun x hx=>?_
    clear e2 wj
    obtain ⟨j,v⟩:=x
    obtain ⟨⟨hj0,hj,hv⟩,hs⟩:=hx
    simp only at hj0 hj hv hs
    rw [Go.Sort.shiftUp] at hs
    (repeat first|apply wA|apply wB|apply wC|apply wE|(apply zM;·kernel_rfl)|refine zI rfl ?_|refine zJ rfl ?_)
    refine AW.cond rfl (fun h4=>?_) (fun h4=>?_)
    rotate_left
    · have k4 : ¬ j < b := by
        have:=of_decide_eq_false h4
        omega
      rw [if_neg k4] at hs
      subst hs
      (repeat first|apply wA|apply wB|apply wC|apply wE|(apply zM;·kernel_rfl)|refine zI rfl ?_|refine zJ rfl ?_)
      refine AW.exit ?_;refine Eq.mpr (if_pos rfl) ?_;(repeat first|apply wA|apply wB|apply wC|apply wE|(apply zM;·kernel_rfl)|refine zI rfl ?_|refine zJ rfl ?_)
      exact ⟨(),trivial,⟨Rn.rowIs rfl rfl rfl,Rn.is rfl rfl,Rn.is rfl rfl,Rn.fnO rfl rfl rfl,Rn.is rfl rfl,Rn.is rfl rfl,trivial⟩,io_end rfl rfl rfl rfl rfl (rfl) (rowFit (by assumption))⟩
    have k4:j<b:=by
      have:=of_decide_eq_true h4
      omega
    rw [if_pos k4] at hs
    have wk:IntKind.i64.wrap (((j:Nat):Int)+Int.ofNat 1)=((j+1:Nat):Int):=by simp only [IntKind.wrap_i64,Int.ofNat_eq_natCast];omega
    (repeat first|apply wA|apply wB|apply wC|apply wE|(apply zM;·kernel_rfl))
    refine AW.draws mixed_ok ?_
    refine wH rfl ?_;refine RG.opS rfl (op_ixW (j) numF ((v).toList) (by omega) rfl (tab_ok ty_ok rfl) rfl (tab_ok ty_ok rfl) rfl rfl rfl (by first | omega | (simp only [IntKind.wrap_i64,Int.ofNat_eq_natCast] <;> omega) | rfl)) rfl ?_;refine RG.opS rfl (op_ldW (j) numF (v) (by omega) rfl (tab_ok ty_ok rfl) rfl rfl rfl) rfl ?_
    refine wH rfl ?_;refine RG.opS rfl (op_ixW (j - 1) numF ((v).toList) (by omega) rfl (tab_ok ty_ok rfl) rfl (tab_ok ty_ok rfl) rfl rfl rfl (by first | omega | (simp only [IntKind.wrap_i64,Int.ofNat_eq_natCast] <;> omega) | rfl)) rfl ?_;refine RG.opS rfl (op_ldW (j - 1) numF (v) (by omega) rfl (tab_ok ty_ok rfl) rfl rfl rfl) rfl ?_
    refine wH rfl ?_
    refine RG.ownK [(210,210),(201,201)] [(210,210),(201,201)] 201 201 rfl (fun q=>m_compare l L hL n (v) (v[j]!) (v[j - 1]!) q (rowFit (by assumption))) rfl rfl rfl rfl rfl rfl rfl rfl rfl rfl rfl rfl rfl ?_
    refine wH rfl ?_;(repeat first|apply wA|apply wB|apply wC|apply wE|(apply zM;·kernel_rfl))
    refine AW.cond rfl (fun h5=>?_) (fun h5=>?_)
    · rw [if_pos (show (!ltI l L v[j]! v[j - 1]!)=true from h5)] at hs
      subst hs
      (repeat first|apply wA|apply wB|apply wC|apply wE|(apply zM;·kernel_rfl)|refine zI rfl ?_|refine zJ rfl ?_)
      refine AW.exit ?_;first | (refine Eq.mpr (if_pos rfl) ?_) | (refine Eq.mpr (if_neg (by decide)) ?_;refine Eq.mpr (if_pos rfl) ?_) | (refine Eq.mpr (if_neg (by decide)) ?_;refine Eq.mpr (if_neg (by decide)) ?_;refine Eq.mpr (if_pos rfl) ?_);(repeat first|apply wA|apply wB|apply wC|apply wE|(apply zM;·kernel_rfl)|refine zI rfl ?_|refine zJ rfl ?_)
      exact ⟨(),trivial,⟨Rn.rowIs rfl rfl rfl,Rn.is rfl rfl,Rn.is rfl rfl,Rn.fnO rfl rfl rfl,Rn.is rfl rfl,Rn.is rfl rfl,trivial⟩,io_end rfl rfl rfl rfl rfl (rfl) (rowFit (by assumption))⟩
    · rw [if_neg (by rw [show (!ltI l L v[j]! v[j - 1]!)=false from h5];decide)] at hs
      have hv2:=(swp_sz v j (j - 1)).trans hv
      (repeat first|apply wA|apply wB|apply wC|apply wE|(apply zM;·kernel_rfl))
      refine AW.draws mixed_ok ?_
      refine wH rfl ?_;refine RG.opS rfl (op_ixW (j - 1) numF ((v).toList) (by omega) rfl (tab_ok ty_ok rfl) rfl (tab_ok ty_ok rfl) rfl rfl rfl (by first | omega | (simp only [IntKind.wrap_i64,Int.ofNat_eq_natCast] <;> omega) | rfl)) rfl ?_;refine RG.opS rfl (op_ldW (j - 1) numF (v) (by omega) rfl (tab_ok ty_ok rfl) rfl rfl rfl) rfl ?_;refine wH rfl ?_;refine RG.opS rfl (op_ixW (j) numF ((v).toList) (by omega) rfl (tab_ok ty_ok rfl) rfl (tab_ok ty_ok rfl) rfl rfl rfl (by first | omega | (simp only [IntKind.wrap_i64,Int.ofNat_eq_natCast] <;> omega) | rfl)) rfl ?_;refine RG.opS rfl (op_ldW (j) numF (v) (by omega) rfl (tab_ok ty_ok rfl) rfl rfl rfl) rfl ?_;refine wH rfl ?_;refine RG.opS rfl (op_ixW (j) numF ((v).toList) (by omega) rfl (tab_ok ty_ok rfl) rfl (tab_ok ty_ok rfl) rfl rfl rfl (by first | omega | (simp only [IntKind.wrap_i64,Int.ofNat_eq_natCast] <;> omega) | rfl)) rfl ?_;refine RG.opS rfl (op_stW (j) numF ((v).toList) ((v)[j - 1]!) (by simp only [List.length_set,Array.length_toList];omega) rfl (tab_ok ty_ok rfl) rfl rfl rfl rfl rfl (fun _=>rfl)) rfl ?_;refine wH rfl ?_;refine RG.opS rfl (op_ixW (j - 1) numF (((v).toList.set (j) (v)[j - 1]!)) (by omega) rfl (tab_ok ty_ok rfl) rfl (tab_ok ty_ok rfl) rfl rfl rfl (by first | omega | (simp only [IntKind.wrap_i64,Int.ofNat_eq_natCast] <;> omega) | rfl)) rfl ?_;refine RG.opS rfl (op_stW (j - 1) numF (((v).toList.set (j) (v)[j - 1]!)) ((v)[j]!) (by simp only [List.length_set,Array.length_toList];omega) rfl (tab_ok ty_ok rfl) rfl rfl rfl rfl rfl (fun _=>rfl)) rfl ?_
      refine wH rfl ?_;(repeat first|apply wA|apply wB|apply wC|apply wE|(apply zM;·kernel_rfl))
      refine AW.text ?_
      refine wH rfl ?_;(repeat first|apply wA|apply wB|apply wC|apply wE|(apply zM;·kernel_rfl))
      exact ⟨(j+1,swp v j (j - 1)),⟨⟨⟨by show I<j+1;omega,by show j+1≤b;omega,hv2⟩,hs⟩,by show b - (j+1)<b - j;omega⟩,⟨Rn.rowTIs rfl rfl rfl (rowFit (hv2)),Rn.is rfl rfl,Rn.is rfl rfl,Rn.fnO rfl rfl rfl,Rn.is rfl rfl,Rn.is rfl rfl,Rn.is (congrArg (AV.i .i64) wk) rfl,trivial⟩,io_end rfl rfl rfl rfl rfl (by rw [swp_list]) (rowFit (by assumption))⟩
  have ws:IntKind.i64.wrap (((st:Nat):Int)+Int.ofNat 1)=((st+1:Nat):Int):=by simp only [IntKind.wrap_i64,Int.ofNat_eq_natCast];omega
  (repeat first|apply wA|apply wB|apply wC|apply wE|(apply zM;·kernel_rfl)|refine zI rfl ?_|refine zJ rfl ?_)
  exact ⟨((I,st+1),m2),⟨⟨⟨by show a<I;omega,by show I≤b;omega,by show st+1≤5;omega,hm2⟩,hG⟩,by show 5 - (st+1)<5 - st;omega⟩,⟨Rn.rowIs rfl rfl rfl,Rn.is rfl rfl,Rn.is rfl rfl,Rn.fnO rfl rfl rfl,Rn.is rfl rfl,Rn.is (congrArg (AV.i .i64) ws) rfl,trivial⟩,io_end rfl rfl rfl rfl rfl (rfl) (rowFit (by assumption))⟩
end Go.Proofs.YtahjjfhjjbgjaaaGreat.Sm
end
section
namespace Go.Proofs.YtahjjfhjjbgjaaaGreat.Sm
open Go.RowKit
open Go.Sort (swp)
theorem tab_all {l:List UInt8} (h:(List.range 256).all (fun k=>l[k]? == some (UInt8.ofNat (Go.Sort.bitsLen k)))=true) {v:UInt64} (hv:v.toNat<256):l[v.toUInt8.toNat]?=some (UInt8.ofNat (Go.Sort.bitsLen v.toNat)):=by
 have h1:=List.all_eq_true.1 h v.toNat (List.mem_range.2 hv)
 have e:v.toUInt8.toNat=v.toNat:=by rw [UInt64.toNat_toUInt8];omega
 rw [e]
 simpa using h1
theorem bitsLen_8 {k:Nat} (h:k<256):Go.Sort.bitsLen k≤8:=(Go.Sort.bitsLen_le_iff k 8).2 h
theorem d_Len64X (v:UInt64) (hv:v.toNat<256):PDoes Tryz.prog 198 [.u v] (.i .i64 ((Go.Sort.bitsLen v.toNat:Nat):Int)):=by
 refine PDoes.of_bodyN Tryz.func198 rfl (by kernel_rfl) rfl rfl ?_
 have h8:=bitsLen_8 hv
 (repeat first|apply wA|apply wB|apply wC|apply wE|(apply zM;·kernel_rfl)|refine zI rfl ?_|refine zJ rfl ?_)
 refine AW.cond rfl (fun h=>?_) (fun h=>?_)
 ·have:=UInt64.le_iff_toNat_le.1 (of_decide_eq_true h)
  exact absurd (Nat.lt_of_le_of_lt this hv) (by decide)
 clear h
 (repeat first|apply wA|apply wB|apply wC|apply wE|(apply zM;·kernel_rfl)|refine zI rfl ?_|refine zJ rfl ?_)
 refine AW.cond rfl (fun h=>?_) (fun h=>?_)
 ·have:=UInt64.le_iff_toNat_le.1 (of_decide_eq_true h)
  exact absurd (Nat.lt_of_le_of_lt this hv) (by decide)
 clear h
 (repeat first|apply wA|apply wB|apply wC|apply wE|(apply zM;·kernel_rfl)|refine zI rfl ?_|refine zJ rfl ?_)
 refine AW.cond rfl (fun h=>?_) (fun h=>?_)
 ·have:=UInt64.le_iff_toNat_le.1 (of_decide_eq_true h)
  exact absurd (Nat.lt_of_le_of_lt this hv) (by decide)
 clear h
 (repeat first|apply wA|apply wB|apply wC|apply wE|(apply zM;·kernel_rfl)|refine zI rfl ?_|refine zJ rfl ?_)
 refine RG.opS rfl (op_indexSy rfl (tab_ok ty_ok rfl) rfl rfl rfl (tab_all (by kernel_rfl) hv)) rfl ?_
 refine wH rfl ?_;(repeat first|apply wA|apply wB|apply wC|apply wE|(apply zM;·kernel_rfl)|refine zI rfl ?_|refine zJ rfl ?_)
 refine AW.ret (retQA ty_ok rfl rfl rfl ?_)
 have e:(UInt8.ofNat (Go.Sort.bitsLen v.toNat)).toNat=Go.Sort.bitsLen v.toNat:=by rw [UInt8.toNat_ofNat'];omega
 have e2:IntKind.i64.wrap ((Go.Sort.bitsLen v.toNat:Nat):Int)=((Go.Sort.bitsLen v.toNat:Nat):Int):=by rw [IntKind.wrap_i64];omega
 show AV.i .i64 (IntKind.i64.wrap (0+IntKind.i64.wrap (((UInt8.ofNat (Go.Sort.bitsLen v.toNat)).toNat:Nat):Int)))=_
 rw [e,e2,Int.zero_add,e2]
theorem d_LenX (v:UInt64) (hv:v.toNat<256):PDoes Tryz.prog 164 [.u v] (.i .i64 ((Go.Sort.bitsLen v.toNat:Nat):Int)):=by
 have hr:=d_Len64X v hv
 refine PDoes.of_bodyN Tryz.func164 rfl (by kernel_rfl) rfl rfl ?_
 (repeat first|apply wA|apply wB|apply wC|apply wE|(apply zM;·kernel_rfl)|refine zI rfl ?_|refine zJ rfl ?_)
 refine AW.condF rfl ?_;(repeat first|apply wA|apply wB|apply wC|apply wE|(apply zM;·kernel_rfl)|refine zI rfl ?_|refine zJ rfl ?_)
 refine RG.callS rfl rfl rfl rfl rfl hr rfl rfl ?_;refine wH rfl ?_;(repeat first|apply wA|apply wB|apply wC|apply wE|(apply zM;·kernel_rfl)|refine zI rfl ?_|refine zJ rfl ?_)
 refine AW.ret (retQA ty_ok rfl rfl rfl ?_)
 rfl
theorem ofI_len {k:Nat} (h:k<256):(ofI64 ((k:Nat):Int)).toNat=k:=by
 have e:=ofI64_nat ((k:Nat):Int)
 rw [IntKind.wrap_u64] at e
 omega
def pow2 (k:Nat):UInt64:=shl64 (UInt64.ofNat 1) (Go.Sort.bitsLen k)
theorem d_nextPow (k:Nat) (hk:k<256):PDoes Tryz.prog 212 [.i .i64 ((k:Nat):Int)] (.u (pow2 k)):=by
 have hr:=d_LenX (ofI64 ((k:Nat):Int)) (by rw [ofI_len hk];exact hk)
 rw [ofI_len hk] at hr
 refine PDoes.of_bodyN Tryz.func212 rfl (by kernel_rfl) rfl rfl ?_
 (repeat first|apply wA|apply wB|apply wC|apply wE|(apply zM;·kernel_rfl)|refine zI rfl ?_|refine zJ rfl ?_)
 refine RG.callS rfl rfl rfl rfl rfl hr rfl rfl ?_;refine wH rfl ?_;(repeat first|apply wA|apply wB|apply wC|apply wE|(apply zM;·kernel_rfl)|refine zI rfl ?_|refine zJ rfl ?_)
 refine AW.ret (retQA ty_ok rfl rfl rfl ?_)
 rfl
theorem shl64_eq (a:UInt64) {k:Nat} (h:k<64):shl64 a k=a <<< UInt64.ofNat k:=by
 apply UInt64.toNat_inj.1
 rw [shl64,UInt64.toNat_ofNat',UInt64.toNat_shiftLeft,UInt64.toNat_ofNat',Nat.shiftLeft_eq,Nat.min_eq_left (by omega)]
 have:k % 2 ^ 64 % 64=k:=by omega
 rw [this]
theorem shr64_eq (a:UInt64) {k:Nat} (h:k<64):shr64 a k=a >>> UInt64.ofNat k:=by
 apply UInt64.toNat_inj.1
 rw [shr64,UInt64.toNat_ofNat',UInt64.toNat_shiftRight,UInt64.toNat_ofNat',Nat.shiftRight_eq_div_pow,Nat.min_eq_left (by omega)]
 have:k % 2 ^ 64 % 64=k:=by omega
 rw [this]
 exact Nat.mod_eq_of_lt (Nat.lt_of_le_of_lt (Nat.div_le_self _ _) (UInt64.toNat_lt a))
def xsB (r:UInt64):List (Nat × SB):=[(240,⟨0,some (.box 276 [.u r])⟩)]
theorem m_next (r:UInt64) (q:Nat→Option (Nat × Nat)):MDoes Tryz.prog 213 [.own 240 0 0] (gl q [240] (xsB r)) (.u (Go.Sort.xorNext r)) (gl q [240] (xsB (Go.Sort.xorNext r))):=by
 refine MDoes.of_body Tryz.func213 rfl (by kernel_rfl) rfl rfl ?_
 have e:Go.Sort.xorNext r=((r ^^^ shl64 r 13) ^^^ shr64 (r ^^^ shl64 r 13) 7) ^^^ shl64 ((r ^^^ shl64 r 13) ^^^ shr64 (r ^^^ shl64 r 13) 7) 17:=by
  rw [shl64_eq _ (by decide),shr64_eq _ (by decide),shl64_eq _ (by decide)];rfl
 rw [e]
 (repeat first|apply wA|apply wB|apply wC|apply wE|(apply zM;·kernel_rfl)|refine zI rfl ?_|refine zJ rfl ?_)
 exact AW.ret (retM1 rfl (Rm.is rfl rfl) ⟨.ghost rfl rfl rfl,.boxL rfl ⟨Rn.is rfl rfl,trivial⟩ rfl,trivial⟩)
section
variable {α : Type} [Inhabited α]
def brkL (a len md:Nat):Nat→Nat→UInt64 × Array α→UInt64 × Array α
 | 0,_,st=>st
 | k+1,idx,st=>brkL a len md k (idx+1) (Go.Sort.breakStep a len md st idx)
theorem brk_eq {d:Array α} {a b:Nat} (h:b - a≥8):Go.Sort.breakPatterns d a b=(brkL a (b - a) (1 <<< Go.Sort.bitsLen (b - a)) 3 (a+(b - a) / 4*2 - 1) (UInt64.ofNat (b - a),d)).2:=by
 rw [Go.Sort.breakPatterns]
 simp only [h,if_true]
 rfl
def brkO (len md:Nat) (r:UInt64):Nat:=bif decide ((Go.Sort.xorNext r).toNat &&& (md - 1)≥len) then ((Go.Sort.xorNext r).toNat &&& (md - 1)) - len else (Go.Sort.xorNext r).toNat &&& (md - 1)
theorem brk_step {a len md idx:Nat} {r:UInt64} {d:Array α}:Go.Sort.breakStep a len md (r,d) idx=(Go.Sort.xorNext r,swp d idx (a+brkO len md r)):=by
 rw [Go.Sort.breakStep,brkO]
 simp only [Bool.cond_decide]
theorem brkO_lt {len:Nat} (h:0<len) (r:UInt64):brkO len (1 <<< Go.Sort.bitsLen len) r<len:=by
 have h1:=Go.Sort.two_pow_bitsLen_le h
 have h2:(Go.Sort.xorNext r).toNat &&& ((1 <<< Go.Sort.bitsLen len) - 1)≤(1 <<< Go.Sort.bitsLen len) - 1:=Nat.and_le_right
 rw [Nat.one_shiftLeft] at h2 ⊢
 rw [brkO]
 have h3:0<2 ^ Go.Sort.bitsLen len:=Nat.two_pow_pos _
 by_cases k:(Go.Sort.xorNext r).toNat &&& (2 ^ Go.Sort.bitsLen len - 1)≥len
 ·rw [decide_eq_true k,cond_true];omega
 ·rw [decide_eq_false k,cond_false];omega
end
theorem pow2_and {len:Nat} (h:len<256) (h0:0<len) (r:UInt64):IntKind.i64.wrap (((r &&& (pow2 len - UInt64.ofNat 1)).toNat:Nat):Int)=((r.toNat &&& ((1 <<< Go.Sort.bitsLen len) - 1):Nat):Int):=by
 have h8:=bitsLen_8 h
 have e:(pow2 len).toNat=1 <<< Go.Sort.bitsLen len:=by
  rw [pow2,shl64,UInt64.toNat_ofNat',Nat.one_shiftLeft,Nat.min_eq_left (by omega)]
  have h1:2 ^ Go.Sort.bitsLen len≤2 ^ 8:=Nat.pow_le_pow_right (by decide) h8
  show (1*2 ^ Go.Sort.bitsLen len) % 2 ^ 64=_
  rw [Nat.one_mul]
  exact Nat.mod_eq_of_lt (by omega)
 have hp:0<1 <<< Go.Sort.bitsLen len:=by rw [Nat.one_shiftLeft];exact Nat.two_pow_pos _
 have h2:(1 <<< Go.Sort.bitsLen len)≤2 ^ 8:=by rw [Nat.one_shiftLeft];exact Nat.pow_le_pow_right (by decide) h8
 have e2:(pow2 len - UInt64.ofNat 1).toNat=(1 <<< Go.Sort.bitsLen len) - 1:=by
  rw [UInt64.toNat_sub_of_le _ _ (UInt64.le_iff_toNat_le.2 (by rw [e];exact hp)),e];rfl
 rw [UInt64.toNat_and,e2]
 have h3:r.toNat &&& ((1 <<< Go.Sort.bitsLen len) - 1)≤(1 <<< Go.Sort.bitsLen len) - 1:=Nat.and_le_right
 generalize r.toNat &&& ((1 <<< Go.Sort.bitsLen len) - 1)=x at h3
 rw [IntKind.wrap_i64];omega
end Go.Proofs.YtahjjfhjjbgjaaaGreat.Sm
end
section
namespace Go.Proofs.YtahjjfhjjbgjaaaGreat.Sm
open Go.RowKit
open Go.Sort (swp)
def bpB {L:Nat} (q:Nat→Option (Nat × Nat)) (l:List Rl) (n:Nat) (d:Array (Fin (L+1))) (r:UInt64):List (Nat × SB):=(9,⟨0,some (.box 276 [.u r])⟩)::gl q [210,201] (ioB l n d)
theorem bp_end {L:Nat} {l:List Rl} {d:Array (Fin (L+1))} {s:St} {q:Nat→Option (Nat × Nat)} {n e e1 e1' e3 g g1:Nat} {r:UInt64} {els:List (List AV)} {cs:List AV} (h3:s.σ 9=⟨e3,some (.box 276 cs)⟩) (h0:s.σ 210=⟨e,some (.box 287 [.sl (l.map cRl),.row 201 e1 0 n])⟩) (h1:s.σ 201=⟨e1',some (.row 3 1 els)⟩)
  (hg:s.σ 1110=⟨g,some (.ghost 210 e (q 210))⟩) (hg1:s.σ 1101=⟨g1,some (.ghost 201 e1' (q 201))⟩) (he:e1=e1') (hc:cs=[.u r]) (hel:els=d.toList.map numF) (hn:0+n≤(d.toList.map numF).length):WkB s (lkB (bpB q l n d r)) (bpB q l n d r):=by
 subst he hel hc
 exact ⟨.boxL h3 ⟨Rn.is rfl rfl,trivial⟩ rfl,.ghost hg h0 rfl,.ghost hg1 h1 rfl,.boxL h0 ⟨Rn.is rfl rfl,Rn.rowIs rfl h1 rfl,trivial⟩ rfl,.row h1 rfl,trivial⟩
theorem m_break (l:List Rl) (L:Nat) (hL:l.length=L+1) (n:Nat) (hl:n≤100000) (d:Array (Fin (L+1))) (hn:d.size=n) (a b:Nat) (hab:a+8≤b) (hb:b≤n) (h256:n<256) (q:Nat→Option (Nat × Nat)):MDoes Tryz.prog 234 [.row 201 0 0 n,.i .i64 ((a:Nat):Int),.i .i64 ((b:Nat):Int),.fn 223 [.own 210 0 0] []] (gl q [210,201] (ioB l n (d))) (.tup []) (gl q [210,201] (ioB l n (Go.Sort.breakPatterns d a b))):=by
 refine MDoes.of_body Tryz.func234 rfl (by kernel_rfl) rfl rfl ?_
 obtain ⟨G,hG⟩:∃R,Go.Sort.breakPatterns d a b=R:=⟨_,rfl⟩
 rw [hG]
 rw [brk_eq (by omega)] at hG
 have wl:IntKind.i64.wrap (((b:Nat):Int) - ((a:Nat):Int))=((b - a:Nat):Int):=by rw [IntKind.wrap_i64];omega
 generalize hm:b - a=m at wl hG
 have w2:=w_quo4 m 2 (by omega) (by decide) a (by omega)
 have wb:IntKind.i64.wrap (((a+m / 4*2:Nat):Int) - Int.ofNat 1)=((a+m / 4*2 - 1:Nat):Int):=by rw [IntKind.wrap_i64];simp only [Int.ofNat_eq_natCast];omega
 have wc:IntKind.i64.wrap (((a+m / 4*2:Nat):Int)+Int.ofNat 1)=((a+m / 4*2+1:Nat):Int):=by rw [IntKind.wrap_i64];simp only [Int.ofNat_eq_natCast];omega
 have hlen:=d_nextPow m (by omega)
 have hr0:ofI64 ((m:Nat):Int)=UInt64.ofNat m:=ofI_nat m (by omega)
 (repeat first|apply wA|apply wB|apply wC|apply wE|(apply zM;·kernel_rfl))
 refine AW.text ?_
 refine RG.runO ty_ok 0 [(15,.i .i64 ((m:Nat):Int))] 400 rfl (by repeat' (first|exact trivial|apply And.intro|exact dT ‹_›|exact dF ‹_›|exact dN ‹_›|exact dM ‹_›|exact dI ‹_›)) ?_
 (repeat first|apply wA|apply wB|apply wC|apply wE|(apply zM;·kernel_rfl)|refine zI rfl ?_|refine zJ rfl ?_)
 refine AW.cond rfl (fun h0=>?_) (fun h0=>?_)
 rotate_left
 ·exfalso
  have:=of_decide_eq_false h0
  simp only [Int.ofNat_eq_natCast] at this
  omega
 (repeat first|apply wA|apply wB|apply wC|apply wE|(apply zM;·kernel_rfl));refine wF ?_;refine wH rfl ?_;(repeat first|apply wA|apply wB|apply wC|apply wE|(apply zM;·kernel_rfl))
 refine AW.text ?_
 refine wH rfl ?_
 refine RG.callS rfl rfl rfl rfl rfl hlen rfl rfl ?_
 refine wH rfl ?_;(repeat first|apply wA|apply wB|apply wC|apply wE|(apply zM;·kernel_rfl))
 refine AW.text ?_
 refine RG.runO ty_ok 0 [(26,.i .i64 ((a+m / 4*2:Nat):Int)),(27,.i .i64 ((a+m / 4*2 - 1:Nat):Int))] 400 rfl (by repeat' (first|exact trivial|apply And.intro|exact dT ‹_›|exact dF ‹_›|exact dN ‹_›|exact dM ‹_›|exact dI ‹_›)) ?_
 (repeat first|apply wA|apply wB|apply wC|apply wE|(apply zM;·kernel_rfl)|refine zI rfl ?_|refine zJ rfl ?_)
 have hm4:m / 4*2+1<m∧2≤m / 4:=by omega
 obtain ⟨c,hc⟩:∃c,a+m / 4*2 - 1=c:=⟨_,rfl⟩
 have hc1:a+m / 4*2=c+1:=by omega
 have hc2:a+m / 4*2+1=c+2:=by omega
 rw [hc] at hG
 refine AW.loopL (ι:=Nat × (UInt64 × Array (Fin (L+1)))) (fun x=>[(0,.row 201 0 0 n),(1,.i .i64 ((a:Nat):Int)),(8,.i .i64 ((m:Nat):Int)),(9,.own 9 0 0),(10,.u (pow2 m)),(11,.i .i64 ((x.1:Nat):Int))]) (fun x=>bpB q l n x.2.2 x.2.1) (fun x=>(c≤x.1∧x.1≤c+3∧x.2.2.size=n)∧(brkL a m (1 <<< Go.Sort.bitsLen m) (c+3 - x.1) x.1 x.2).2=G) (fun x=>c+3 - x.1) (c,(UInt64.ofNat m,d)) ⟨⟨Nat.le_refl _,by show c≤c+3;omega,hn⟩,by show (brkL a m _ (c+3 - c) c _).2=G;rw [Nat.add_sub_cancel_left];exact hG⟩ ⟨Rn.rowIs rfl rfl rfl,Rn.is rfl rfl,Rn.is rfl rfl,Rn.ownIs rfl rfl rfl,Rn.is rfl rfl,Rn.is (congrArg (AV.i .i64) (show (((a+m / 4*2 - 1:Nat):Int))=((c:Nat):Int) by rw [hc])) rfl,trivial⟩ (bp_end rfl rfl rfl rfl rfl rfl (by rw [← hr0]) (rfl) (rowFit hn)) fun x hx=>?_
 clear hG hn
 obtain ⟨i,r,v⟩:=x
 obtain ⟨⟨hi0,hi,hv⟩,hG⟩:=hx
 simp only at hi0 hi hv hG
 (repeat first|apply wA|apply wB|apply wC|apply wE|(apply zM;·kernel_rfl))
 refine AW.text ?_
 refine RG.runO ty_ok 0 [(33,.i .i64 ((a+m / 4*2:Nat):Int)),(34,.i .i64 ((a+m / 4*2+1:Nat):Int))] 400 rfl (by repeat' (first|exact trivial|apply And.intro|exact dT ‹_›|exact dF ‹_›|exact dN ‹_›|exact dM ‹_›|exact dI ‹_›)) ?_
 (repeat first|apply wA|apply wB|apply wC|apply wE|(apply zM;·kernel_rfl))
 refine AW.cond rfl (fun h1=>?_) (fun h1=>?_)
 rotate_left
 ·have k:i=c+3:=by
   have:=of_decide_eq_false h1
   try simp only at this
   omega
  subst k
  rw [Nat.sub_self,brkL] at hG
  subst hG
  (repeat first|apply wA|apply wB|apply wC|apply wE|(apply zM;·kernel_rfl)|refine zI rfl ?_|refine zJ rfl ?_)
  refine AW.exit ?_;refine Eq.mpr (if_pos rfl) ?_;(repeat first|apply wA|apply wB|apply wC|apply wE|(apply zM;·kernel_rfl)|refine zI rfl ?_|refine zJ rfl ?_)
  exact retM0 rfl (.inl rfl) (io_end rfl rfl rfl rfl rfl (rfl) (rowFit hv))
 have k:i≤c+2:=by
  have:=of_decide_eq_true h1
  try simp only at this
  omega
 rw [show c+3 - i=(c+3 - (i+1))+1 by omega,brkL,brk_step] at hG
 have ho:=brkO_lt (len:=m) (by omega) r
 have hoth:=pow2_and (len:=m) (by omega) (by omega) (Go.Sort.xorNext r)
 have hmd:=Go.Sort.two_pow_bitsLen_le (n:=m) (by omega)
 have hle:(Go.Sort.xorNext r).toNat &&& ((1 <<< Go.Sort.bitsLen m) - 1)≤(1 <<< Go.Sort.bitsLen m) - 1:=Nat.and_le_right
 rw [Nat.one_shiftLeft] at hle
 obtain ⟨o,hO⟩:∃o,brkO m (1 <<< Go.Sort.bitsLen m) r=o:=⟨_,rfl⟩
 rw [hO] at ho hG
 rw [brkO] at hO
 rw [Nat.one_shiftLeft] at hoth hO
 generalize (Go.Sort.xorNext r).toNat &&& (2 ^ Go.Sort.bitsLen m - 1)=oth at hoth hO hle
 have w3:oth≤100000:=by omega
 (repeat first|apply wA|apply wB|apply wC|apply wE|(apply zM;·kernel_rfl))
 refine AW.text ?_
 refine wH rfl ?_
 refine RG.ownN [(9,240)] [(240,9)] (fun q=>m_next r q) rfl rfl rfl rfl rfl rfl rfl rfl rfl rfl ?_
 refine RG.runO ty_ok 0 [(42,.i .i64 ((oth:Nat):Int))] 400 rfl (by repeat' (first|exact trivial|apply And.intro|exact dT ‹_›|exact dF ‹_›|exact dN ‹_›|exact dM ‹_›|exact dI ‹_›)) ?_
 (repeat first|apply wA|apply wB|apply wC|apply wE|(apply zM;·kernel_rfl)|refine zI rfl ?_|refine zJ rfl ?_)
 refine AW.cutT (ι:=Unit) (fun _=>[(0,.row 201 0 0 n),(1,.i .i64 ((a:Nat):Int)),(8,.i .i64 ((m:Nat):Int)),(9,.own 9 0 0),(10,.u (pow2 m)),(11,.i .i64 ((i:Nat):Int)),(12,.i .i64 ((o:Nat):Int))]) (fun _=>bpB q l n v (Go.Sort.xorNext r)) (fun _=>True) ?_ fun _ _=>?_
 ·refine AW.cond rfl (fun h2=>?_) (fun h2=>?_)
  ·have k2:oth≥m:=by
    have:=of_decide_eq_true h2
    try simp only at this
    omega
   rw [decide_eq_true k2,cond_true] at hO
   have wo:IntKind.i64.wrap (((oth:Nat):Int) - ((m:Nat):Int))=((o:Nat):Int):=by rw [IntKind.wrap_i64];omega
   (repeat first|apply wA|apply wB|apply wC|apply wE|(apply zM;·kernel_rfl)|refine zI rfl ?_|refine zJ rfl ?_)
   exact ⟨(),trivial,⟨Rn.rowIs rfl rfl rfl,Rn.is rfl rfl,Rn.is rfl rfl,Rn.ownIs rfl rfl rfl,Rn.is rfl rfl,Rn.is rfl rfl,Rn.is (congrArg (AV.i .i64) wo) rfl,trivial⟩,bp_end rfl rfl rfl rfl rfl rfl (rfl) (rfl) (rowFit hv)⟩
  ·have k2:¬oth≥m:=by
    have:=of_decide_eq_false h2
    try simp only at this
    omega
   rw [decide_eq_false k2,cond_false] at hO
   subst hO
   (repeat first|apply wA|apply wB|apply wC|apply wE|(apply zM;·kernel_rfl)|refine zI rfl ?_|refine zJ rfl ?_)
   exact ⟨(),trivial,⟨Rn.rowIs rfl rfl rfl,Rn.is rfl rfl,Rn.is rfl rfl,Rn.ownIs rfl rfl rfl,Rn.is rfl rfl,Rn.is rfl rfl,Rn.is rfl rfl,trivial⟩,bp_end rfl rfl rfl rfl rfl rfl (rfl) (rfl) (rowFit hv)⟩
 have wi:IntKind.i64.wrap (((i:Nat):Int)+Int.ofNat 1)=((i+1:Nat):Int):=by simp only [IntKind.wrap_i64,Int.ofNat_eq_natCast];omega
 have hv2:=(swp_sz v i (a+o)).trans hv
 (repeat first|apply wA|apply wB|apply wC|apply wE|(apply zM;·kernel_rfl))
 refine AW.draws mixed_ok ?_
 refine wH rfl ?_;refine RG.opS rfl (op_ixW (a+o) numF ((v).toList) (by omega) rfl (tab_ok ty_ok rfl) rfl (tab_ok ty_ok rfl) rfl rfl rfl (by first | omega | (simp only [IntKind.wrap_i64,Int.ofNat_eq_natCast] <;> omega) | rfl)) rfl ?_;refine RG.opS rfl (op_ldW (a+o) numF (v) (by omega) rfl (tab_ok ty_ok rfl) rfl rfl rfl) rfl ?_;refine wH rfl ?_;refine RG.opS rfl (op_ixW (i) numF ((v).toList) (by omega) rfl (tab_ok ty_ok rfl) rfl (tab_ok ty_ok rfl) rfl rfl rfl (by first | omega | (simp only [IntKind.wrap_i64,Int.ofNat_eq_natCast] <;> omega) | rfl)) rfl ?_;refine RG.opS rfl (op_ldW (i) numF (v) (by omega) rfl (tab_ok ty_ok rfl) rfl rfl rfl) rfl ?_;refine wH rfl ?_;refine RG.opS rfl (op_ixW (i) numF ((v).toList) (by omega) rfl (tab_ok ty_ok rfl) rfl (tab_ok ty_ok rfl) rfl rfl rfl (by first | omega | (simp only [IntKind.wrap_i64,Int.ofNat_eq_natCast] <;> omega) | rfl)) rfl ?_;refine RG.opS rfl (op_stW (i) numF ((v).toList) ((v)[a+o]!) (by simp only [List.length_set,Array.length_toList];omega) rfl (tab_ok ty_ok rfl) rfl rfl rfl rfl rfl (fun _=>rfl)) rfl ?_;refine wH rfl ?_;refine RG.opS rfl (op_ixW (a+o) numF (((v).toList.set (i) (v)[a+o]!)) (by omega) rfl (tab_ok ty_ok rfl) rfl (tab_ok ty_ok rfl) rfl rfl rfl (by first | omega | (simp only [IntKind.wrap_i64,Int.ofNat_eq_natCast] <;> omega) | rfl)) rfl ?_;refine RG.opS rfl (op_stW (a+o) numF (((v).toList.set (i) (v)[a+o]!)) ((v)[i]!) (by simp only [List.length_set,Array.length_toList];omega) rfl (tab_ok ty_ok rfl) rfl rfl rfl rfl rfl (fun _=>rfl)) rfl ?_
 refine wH rfl ?_;(repeat first|apply wA|apply wB|apply wC|apply wE|(apply zM;·kernel_rfl))
 refine AW.text ?_
 refine wH rfl ?_;(repeat first|apply wA|apply wB|apply wC|apply wE|(apply zM;·kernel_rfl))
 exact ⟨(i+1,(Go.Sort.xorNext r,swp v i (a+o))),⟨⟨⟨by show c≤i+1;omega,by show i+1≤c+3;omega,hv2⟩,hG⟩,by show c+3 - (i+1)<c+3 - i;omega⟩,⟨Rn.rowTIs rfl rfl rfl (rowFit (hv2)),Rn.is rfl rfl,Rn.is rfl rfl,Rn.ownIs rfl rfl rfl,Rn.is rfl rfl,Rn.is (congrArg (AV.i .i64) wi) rfl,trivial⟩,bp_end rfl rfl rfl rfl rfl rfl (rfl) (by rw [swp_list]) (rowFit hv2)⟩
end Go.Proofs.YtahjjfhjjbgjaaaGreat.Sm
end
section
namespace Go.Proofs.YtahjjfhjjbgjaaaGreat.Sm
open Go.RowKit
open Go.Sort (swp)
open Go.Sort (SWO Below PermIn SortedIn)
theorem hint2 (h:Go.Sort.Hint):decide (Go.Sort.hintCode h=2)=decide (h = .decreasing):=by cases h <;> rfl
theorem hint1 (h:Go.Sort.Hint):decide (Go.Sort.hintCode h=1)=decide (h = .increasing):=by cases h <;> rfl
theorem heap_sz {α:Type} [Inhabited α] {lt:α→α→Bool} (d:Array α) (a b:Nat):(Go.Sort.heapSort lt d a b).size=d.size:=by
 rw [Go.Sort.heapSort,pop_sz,build_sz]
theorem m_pdq (l : List Rl) (L : Nat) (hL : l.length = L + 1) (n : Nat) (hl : n ≤ 100000) (h256 : n < 256) (hS : SWO (ltI l L)) : ∀ (f a b lim : Nat) (d : Array (Fin (L + 1))), d.size = n → a ≤ b → b ≤ n → b - a ≤ f → lim ≤ 1000 → Below (ltI l L) a b d → ∀ (q : Nat → Option (Nat × Nat)),
    MDoes Tryz.prog 228 [.row 201 0 0 n,.i .i64 ((a:Nat):Int),.i .i64 ((b:Nat):Int),.i .i64 ((lim:Nat):Int),.fn 223 [.own 210 0 0] []] (gl q [210,201] (ioB l n (d))) (.tup []) (gl q [210,201] (ioB l n (Go.Sort.pdq (ltI l L) d a b lim true true))):=by
  intro f
  induction f using Nat.strongRecOn with
  | ind f IH =>
  intro a b lim d hn hab hb hf hlim hB q
  refine MDoes.of_body Tryz.func228 rfl (by kernel_rfl) rfl rfl ?_
  generalize hG:Go.Sort.pdq (ltI l L) d a b lim true true=G
  (repeat first|apply wA|apply wB|apply wC|apply wE|(apply zM;·kernel_rfl)|refine zI rfl ?_|refine zJ rfl ?_)
  refine AW.loopL (ι:=(Nat × Nat × Nat) × (Bool × Bool) × Array (Fin (L+1))) (fun x=>[(0,.row 201 0 0 n),(1,.i .i64 ((x.1.1:Nat):Int)),(2,.i .i64 ((x.1.2.1:Nat):Int)),(3,.i .i64 ((x.1.2.2:Nat):Int)),(4,.fn 223 [.own 210 0 0] []),(10,.b x.2.1.1),(11,.b x.2.1.2)]) (fun x=>gl q [210,201] (ioB l n (x.2.2))) (fun x=>(x.1.1≤x.1.2.1∧x.1.2.1≤n∧x.1.2.1 - x.1.1≤f∧x.1.2.2≤1000∧x.2.2.size=n∧Below (ltI l L) x.1.1 x.1.2.1 x.2.2)∧Go.Sort.pdq (ltI l L) x.2.2 x.1.1 x.1.2.1 x.1.2.2 x.2.1.1 x.2.1.2=G) (fun x=>x.1.2.1 - x.1.1) ((a,b,lim),(true,true),d) ⟨⟨hab,hb,hf,hlim,hn,hB⟩,hG⟩ ⟨Rn.rowIs rfl rfl rfl,Rn.is rfl rfl,Rn.is rfl rfl,Rn.is rfl rfl,Rn.fnO rfl rfl rfl,Rn.is rfl rfl,Rn.is rfl rfl,trivial⟩ (io_end rfl rfl rfl rfl rfl (rfl) (rowFit (by assumption))) fun x hx=>?_
  clear hG hn hab hb hf hlim hB
  obtain ⟨⟨a,b,lim⟩,⟨wb,wp⟩,d⟩:=x
  obtain ⟨⟨hab,hb,hf,hlim,hn,hB⟩,hG⟩:=hx
  simp only at hab hb hf hlim hn hB hG
  have p:=Go.Sort.pdq_unfold (lt:=ltI l L) (d:=d) (a:=a) (b:=b) (limit:=lim) (wb:=wb) (wp:=wp)
  rw [p] at hG
  clear p
  have wl:IntKind.i64.wrap (((b:Nat):Int) - ((a:Nat):Int))=((b - a:Nat):Int):=by rw [IntKind.wrap_i64];omega
  (repeat first|apply wA|apply wB|apply wC|apply wE|(apply zM;·kernel_rfl))
  refine AW.text ?_
  refine RG.runO ty_ok 0 [(23,.i .i64 ((b - a:Nat):Int))] 400 rfl (by repeat' (first|exact trivial|apply And.intro|exact dT ‹_›|exact dF ‹_›|exact dN ‹_›|exact dM ‹_›|exact dI ‹_›)) ?_
  (repeat first|apply wA|apply wB|apply wC|apply wE|(apply zM;·kernel_rfl)|refine zI rfl ?_|refine zJ rfl ?_)
  refine AW.cond rfl (fun h0=>?_) (fun h0=>?_)
  · have h : b - a ≤ 12 := by
      have:=of_decide_eq_true h0
      simp only [Int.ofNat_eq_natCast] at this
      omega
    rw [if_pos h] at hG
    subst hG
    have hs:=ins_pm (ltI l L) d a b (by omega)
    (repeat first|apply wA|apply wB|apply wC|apply wE|(apply zM;·kernel_rfl)|refine zI rfl ?_|refine zJ rfl ?_)
    refine RG.ownK [(210,210),(201,201)] [(210,210),(201,201)] 201 201 (rowLen (hs.1)) (fun q=>m_insI l L hL n hl d hn a b (by omega) hb q) rfl rfl rfl rfl rfl rfl rfl rfl rfl rfl rfl rfl rfl ?_
    refine wH rfl ?_;(repeat first|apply wA|apply wB|apply wC|apply wE|(apply zM;·kernel_rfl)|refine zI rfl ?_|refine zJ rfl ?_)
    exact AW.ret (retM0 rfl (.inr rfl) (io_end rfl rfl rfl rfl rfl (rfl) (rowFit (hs.1.trans hn))))
  have h:¬b - a≤12:=by
    have:=of_decide_eq_false h0
    simp only [Int.ofNat_eq_natCast] at this
    omega
  rw [if_neg h] at hG
  (repeat first|apply wA|apply wB|apply wC|apply wE|(apply zM;·kernel_rfl)|refine zI rfl ?_|refine zJ rfl ?_)
  refine AW.cond rfl (fun h1=>?_) (fun h1=>?_)
  · have k : lim = 0 := by
      have:=of_decide_eq_true h1
      simp only [Int.ofNat_eq_natCast] at this
      omega
    rw [if_pos k] at hG
    subst hG
    have hs:=heap_sz (lt:=ltI l L) d a b
    (repeat first|apply wA|apply wB|apply wC|apply wE|(apply zM;·kernel_rfl)|refine zI rfl ?_|refine zJ rfl ?_)
    refine RG.ownK [(210,210),(201,201)] [(210,210),(201,201)] 201 201 (rowLen (hs)) (fun q=>m_heap l L hL n hl d hn a b (by omega) hb q) rfl rfl rfl rfl rfl rfl rfl rfl rfl rfl rfl rfl rfl ?_
    refine wH rfl ?_;(repeat first|apply wA|apply wB|apply wC|apply wE|(apply zM;·kernel_rfl)|refine zI rfl ?_|refine zJ rfl ?_)
    exact AW.ret (retM0 rfl (.inr rfl) (io_end rfl rfl rfl rfl rfl (rfl) (rowFit (hs.trans hn))))
  have k:¬lim=0:=by
    have:=of_decide_eq_false h1
    simp only [Int.ofNat_eq_natCast] at this
    omega
  rw [if_neg k] at hG
  have hF:=Go.Sort.rd_facts (limit:=lim) (wb:=wb) (wp:=wp) hS Go.Sort.partialInsertionSort_holds Go.Sort.reverseRange_holds (show a<b by omega) (show b≤d.size by omega) hB
  have hlm:=Go.Sort.rd_lim_le (lt:=ltI l L) (d:=d) (a:=a) (b:=b) (limit:=lim) (wb:=wb) (wp:=wp)
  obtain ⟨X,hX⟩:∃X,Go.Sort.rd (ltI l L) d a b lim wb wp=X:=⟨_,rfl⟩
  rw [hX] at hG hF hlm
  have q1:X.d1=(if (!wb)=true then Go.Sort.breakPatterns d a b else d):=by rw [← hX];rfl
  have q2:X.lim=(if (!wb)=true then lim - 1 else lim):=by rw [← hX];rfl
  have q0:X.c=Go.Sort.choosePivot (ltI l L) X.d1 a b:=by rw [← hX];rfl
  have q3:X.d2=(if X.c.2 = .decreasing then Go.Sort.reverseRange X.d1 a b else X.d1):=by rw [← hX];rfl
  have q4:X.pivot=(if X.c.2 = .decreasing then (b - 1) - (X.c.1 - a) else X.c.1):=by rw [← hX];rfl
  have q5:X.hint=(if X.c.2 = .decreasing then Go.Sort.Hint.increasing else X.c.2):=by rw [← hX];rfl
  have q6:X.pi=(if (wb && wp && decide (X.hint = .increasing))=true then Go.Sort.partialInsertionSort (ltI l L) X.d2 a b else (X.d2,false)):=by rw [← hX];rfl
  clear hX
  obtain ⟨s1,B1,⟨c1,c2⟩,s2,B2,⟨v1,v2⟩,s3,B3⟩:=hF
  have s1:=s1.trans hn
  have s2:=s2.trans hn
  have s3:=s3.trans hn
  (repeat first|apply wA|apply wB|apply wC|apply wE|(apply zM;·kernel_rfl)|refine zI rfl ?_|refine zJ rfl ?_)
  refine AW.cutT (ι:=Unit) (fun _=>[(0,.row 201 0 0 n),(1,.i .i64 ((a:Nat):Int)),(2,.i .i64 ((b:Nat):Int)),(3,.i .i64 ((X.lim:Nat):Int)),(4,.fn 223 [.own 210 0 0] []),(10,.b wb),(11,.b wp),(12,.i .i64 ((b - a:Nat):Int))]) (fun _=>gl q [210,201] (ioB l n (X.d1))) (fun _=>True) ?_ fun _ _=>?_
  · refine AW.cond rfl (fun h2=>?_) (fun h2=>?_)
    · rw [if_pos h2] at q1 q2
      have wm:IntKind.i64.wrap (((lim:Nat):Int) - Int.ofNat 1)=((X.lim:Nat):Int):=by rw [q2,IntKind.wrap_i64];simp only [Int.ofNat_eq_natCast];omega
      have hbk:=m_break l L hL n hl d hn a b (by omega) hb h256
      rw [← q1] at hbk
      (repeat first|apply wA|apply wB|apply wC|apply wE|(apply zM;·kernel_rfl)|refine zI rfl ?_|refine zJ rfl ?_)
      refine RG.ownK [(210,210),(201,201)] [(210,210),(201,201)] 201 201 (rowLen (s1.trans hn.symm)) (fun q=>hbk q) rfl rfl rfl rfl rfl rfl rfl rfl rfl rfl rfl rfl rfl ?_
      refine wH rfl ?_;(repeat first|apply wA|apply wB|apply wC|apply wE|(apply zM;·kernel_rfl)|refine zI rfl ?_|refine zJ rfl ?_)
      exact ⟨(),trivial,⟨Rn.rowIs rfl rfl rfl,Rn.is rfl rfl,Rn.is rfl rfl,Rn.is (congrArg (AV.i .i64) wm) rfl,Rn.fnO rfl rfl rfl,Rn.is rfl rfl,Rn.is rfl rfl,Rn.is rfl rfl,trivial⟩,io_end rfl rfl rfl rfl rfl (rfl) (rowFit s1)⟩
    · rw [if_neg (by rw [h2];decide)] at q1 q2
      rw [q1,q2]
      (repeat first|apply wA|apply wB|apply wC|apply wE|(apply zM;·kernel_rfl)|refine zI rfl ?_|refine zJ rfl ?_)
      exact ⟨(),trivial,⟨Rn.rowIs rfl rfl rfl,Rn.is rfl rfl,Rn.is rfl rfl,Rn.is rfl rfl,Rn.fnO rfl rfl rfl,Rn.is rfl rfl,Rn.is rfl rfl,Rn.is rfl rfl,trivial⟩,io_end rfl rfl rfl rfl rfl (rfl) (rowFit hn)⟩
  clear q1 q2
  have hpv:=m_pivot l L hL n hl X.d1 s1 a b (by omega) hb
  have e0:Go.Sort.choosePivot (ltI l L) X.d1 a b=((Go.Sort.rawPivot (ltI l L) X.d1 a b).1,Go.Sort.hintOf (Go.Sort.rawPivot (ltI l L) X.d1 a b).2):=Go.Sort.choosePivot_eq _ _ _ _
  have e1:(Go.Sort.rawPivot (ltI l L) X.d1 a b).1=X.c.1:=by rw [q0,e0]
  have e2:Go.Sort.hintOf (Go.Sort.rawPivot (ltI l L) X.d1 a b).2=X.c.2:=by rw [q0,e0]
  rw [e1,e2] at hpv
  clear e0 e1 e2 q0
  (repeat first|apply wA|apply wB|apply wC|apply wE|(apply zM;·kernel_rfl)|refine zI rfl ?_|refine zJ rfl ?_)
  refine RG.ownK [(210,210),(201,201)] [(210,210),(201,201)] 201 201 (rowLen (rfl)) (fun q=>hpv q) rfl rfl rfl rfl rfl rfl rfl rfl rfl rfl rfl rfl rfl ?_
  refine wH rfl ?_;(repeat first|apply wA|apply wB|apply wC|apply wE|(apply zM;·kernel_rfl)|refine zI rfl ?_|refine zJ rfl ?_)
  refine AW.cutT (ι:=Unit) (fun _=>[(0,.row 201 0 0 n),(1,.i .i64 ((a:Nat):Int)),(2,.i .i64 ((b:Nat):Int)),(3,.i .i64 ((X.lim:Nat):Int)),(4,.fn 223 [.own 210 0 0] []),(10,.b wb),(11,.b wp),(12,.i .i64 ((b - a:Nat):Int)),(13,.i .i64 ((X.pivot:Nat):Int)),(14,.i .i64 (Go.Sort.hintCode X.hint))]) (fun _=>gl q [210,201] (ioB l n (X.d2))) (fun _=>True) ?_ fun _ _=>?_
  · refine AW.cond rfl (fun h2=>?_) (fun h2=>?_)
    · have k2:X.c.2 = .decreasing:=of_decide_eq_true ((hint2 X.c.2).symm.trans h2)
      rw [if_pos k2] at q3 q4 q5
      have hrv:=m_revI l L hL n hl X.d1 s1 a b (by omega) hb
      rw [← q3] at hrv
      have wa:IntKind.i64.wrap (((b:Nat):Int) - Int.ofNat 1)=((b - 1:Nat):Int):=by rw [IntKind.wrap_i64];simp only [Int.ofNat_eq_natCast];omega
      have wc:IntKind.i64.wrap (((X.c.1:Nat):Int) - ((a:Nat):Int))=((X.c.1 - a:Nat):Int):=by rw [IntKind.wrap_i64];omega
      have wd:IntKind.i64.wrap (((b - 1:Nat):Int) - ((X.c.1 - a:Nat):Int))=((X.pivot:Nat):Int):=by rw [q4,IntKind.wrap_i64];omega
      (repeat first|apply wA|apply wB|apply wC|apply wE|(apply zM;·kernel_rfl)|refine zI rfl ?_|refine zJ rfl ?_)
      refine RG.ownK [(210,210),(201,201)] [(210,210),(201,201)] 201 201 (rowLen (s2.trans s1.symm)) (fun q=>hrv q) rfl rfl rfl rfl rfl rfl rfl rfl rfl rfl rfl rfl rfl ?_
      refine wH rfl ?_;(repeat first|apply wA|apply wB|apply wC|apply wE|(apply zM;·kernel_rfl))
      refine AW.text ?_
      refine RG.runO ty_ok 0 [(63,.i .i64 ((b - 1:Nat):Int)),(66,.i .i64 ((X.c.1 - a:Nat):Int)),(67,.i .i64 ((X.pivot:Nat):Int))] 400 rfl (by repeat' (first|exact trivial|apply And.intro|exact dT ‹_›|exact dF ‹_›|exact dN ‹_›|exact dM ‹_›|exact dI ‹_›)) ?_
      (repeat first|apply wA|apply wB|apply wC|apply wE|(apply zM;·kernel_rfl)|refine zI rfl ?_|refine zJ rfl ?_)
      exact ⟨(),trivial,⟨Rn.rowIs rfl rfl rfl,Rn.is rfl rfl,Rn.is rfl rfl,Rn.is rfl rfl,Rn.fnO rfl rfl rfl,Rn.is rfl rfl,Rn.is rfl rfl,Rn.is rfl rfl,Rn.is rfl rfl,Rn.is (by rw [q5];rfl) rfl,trivial⟩,io_end rfl rfl rfl rfl rfl (rfl) (rowFit s2)⟩
    · have k2:¬X.c.2 = .decreasing:=of_decide_eq_false ((hint2 X.c.2).symm.trans h2)
      rw [if_neg k2] at q3 q4 q5
      rw [q3,q4,q5]
      (repeat first|apply wA|apply wB|apply wC|apply wE|(apply zM;·kernel_rfl)|refine zI rfl ?_|refine zJ rfl ?_)
      exact ⟨(),trivial,⟨Rn.rowIs rfl rfl rfl,Rn.is rfl rfl,Rn.is rfl rfl,Rn.is rfl rfl,Rn.fnO rfl rfl rfl,Rn.is rfl rfl,Rn.is rfl rfl,Rn.is rfl rfl,Rn.is rfl rfl,Rn.is rfl rfl,trivial⟩,io_end rfl rfl rfl rfl rfl (rfl) (rowFit s1)⟩
  clear q3 q4 q5
  (repeat first|apply wA|apply wB|apply wC|apply wE|(apply zM;·kernel_rfl))
  refine AW.cutT (ι:=Unit) (fun _=>[(0,.row 201 0 0 n),(1,.i .i64 ((a:Nat):Int)),(2,.i .i64 ((b:Nat):Int)),(3,.i .i64 ((X.lim:Nat):Int)),(4,.fn 223 [.own 210 0 0] []),(10,.b wb),(11,.b wp),(12,.i .i64 ((b - a:Nat):Int)),(13,.i .i64 ((X.pivot:Nat):Int)),(14,.i .i64 (Go.Sort.hintCode X.hint)),(75,.b (wb && wp && decide (X.hint = .increasing)))]) (fun _=>gl q [210,201] (ioB l n (X.d2))) (fun _=>True) ?_ fun _ _=>?_
  · refine AW.text ?_
    cases wb
    · refine wH rfl ?_;(repeat first|apply wA|apply wB|apply wC|apply wE|(apply zM;·kernel_rfl))
      exact ⟨(),trivial,⟨Rn.rowIs rfl rfl rfl,Rn.is rfl rfl,Rn.is rfl rfl,Rn.is rfl rfl,Rn.fnO rfl rfl rfl,Rn.is rfl rfl,Rn.is rfl rfl,Rn.is rfl rfl,Rn.is rfl rfl,Rn.is rfl rfl,Rn.is rfl rfl,trivial⟩,io_end rfl rfl rfl rfl rfl (rfl) (rowFit s2)⟩
    cases wp
    · refine wH rfl ?_;(repeat first|apply wA|apply wB|apply wC|apply wE|(apply zM;·kernel_rfl))
      exact ⟨(),trivial,⟨Rn.rowIs rfl rfl rfl,Rn.is rfl rfl,Rn.is rfl rfl,Rn.is rfl rfl,Rn.fnO rfl rfl rfl,Rn.is rfl rfl,Rn.is rfl rfl,Rn.is rfl rfl,Rn.is rfl rfl,Rn.is rfl rfl,Rn.is rfl rfl,trivial⟩,io_end rfl rfl rfl rfl rfl (rfl) (rowFit s2)⟩
    refine wH rfl ?_;(repeat first|apply wA|apply wB|apply wC|apply wE|(apply zM;·kernel_rfl))
    exact ⟨(),trivial,⟨Rn.rowIs rfl rfl rfl,Rn.is rfl rfl,Rn.is rfl rfl,Rn.is rfl rfl,Rn.fnO rfl rfl rfl,Rn.is rfl rfl,Rn.is rfl rfl,Rn.is rfl rfl,Rn.is rfl rfl,Rn.is rfl rfl,Rn.is (congrArg AV.b (by rw [Bool.true_and,Bool.true_and];exact hint1 X.hint)) rfl,trivial⟩,io_end rfl rfl rfl rfl rfl (rfl) (rowFit s2)⟩
  (repeat first|apply wA|apply wB|apply wC|apply wE|(apply zM;·kernel_rfl))
  refine AW.cutT (ι:=Unit) (fun _=>[(0,.row 201 0 0 n),(1,.i .i64 ((a:Nat):Int)),(2,.i .i64 ((b:Nat):Int)),(3,.i .i64 ((X.lim:Nat):Int)),(4,.fn 223 [.own 210 0 0] []),(10,.b wb),(11,.b wp),(12,.i .i64 ((b - a:Nat):Int)),(13,.i .i64 ((X.pivot:Nat):Int))]) (fun _=>gl q [210,201] (ioB l n (X.pi.1))) (fun _=>X.pi.2=false) ?_ fun _ hpi=>?_
  · refine AW.cond rfl (fun h2=>?_) (fun h2=>?_)
    · rw [if_pos h2] at q6
      have hpn:=m_pins l L hL n hl X.d2 s2 a b (by omega) hb
      rw [← q6] at hpn
      (repeat first|apply wA|apply wB|apply wC|apply wE|(apply zM;·kernel_rfl)|refine zI rfl ?_|refine zJ rfl ?_)
      refine RG.ownK [(210,210),(201,201)] [(210,210),(201,201)] 201 201 (rowLen (s3.trans s2.symm)) (fun q=>hpn q) rfl rfl rfl rfl rfl rfl rfl rfl rfl rfl rfl rfl rfl ?_
      refine wH rfl ?_;(repeat first|apply wA|apply wB|apply wC|apply wE|(apply zM;·kernel_rfl)|refine zI rfl ?_|refine zJ rfl ?_)
      refine AW.cond rfl (fun h3=>?_) (fun h3=>?_)
      · rw [if_pos h3] at hG
        subst hG
        exact AW.ret (retM0 rfl (.inr rfl) (io_end rfl rfl rfl rfl rfl (rfl) (rowFit s3)))
      · (repeat first|apply wA|apply wB|apply wC|apply wE|(apply zM;·kernel_rfl)|refine zI rfl ?_|refine zJ rfl ?_)
        exact ⟨(),h3,⟨Rn.rowIs rfl rfl rfl,Rn.is rfl rfl,Rn.is rfl rfl,Rn.is rfl rfl,Rn.fnO rfl rfl rfl,Rn.is rfl rfl,Rn.is rfl rfl,Rn.is rfl rfl,Rn.is rfl rfl,trivial⟩,io_end rfl rfl rfl rfl rfl (rfl) (rowFit s3)⟩
    · rw [if_neg (by rw [h2];decide)] at q6
      have q7:X.pi.1=X.d2:=by rw [q6]
      have q8:X.pi.2=false:=by rw [q6]
      rw [q7]
      (repeat first|apply wA|apply wB|apply wC|apply wE|(apply zM;·kernel_rfl)|refine zI rfl ?_|refine zJ rfl ?_)
      exact ⟨(),q8,⟨Rn.rowIs rfl rfl rfl,Rn.is rfl rfl,Rn.is rfl rfl,Rn.is rfl rfl,Rn.fnO rfl rfl rfl,Rn.is rfl rfl,Rn.is rfl rfl,Rn.is rfl rfl,Rn.is rfl rfl,trivial⟩,io_end rfl rfl rfl rfl rfl (rfl) (rowFit s2)⟩
  rw [if_neg (by rw [hpi];decide)] at hG
  clear q6 hpi
  (repeat first|apply wA|apply wB|apply wC|apply wE|(apply zM;·kernel_rfl))
  refine AW.cutT (ι:=Unit) (fun _=>[(0,.row 201 0 0 n),(1,.i .i64 ((a:Nat):Int)),(2,.i .i64 ((b:Nat):Int)),(3,.i .i64 ((X.lim:Nat):Int)),(4,.fn 223 [.own 210 0 0] []),(10,.b wb),(11,.b wp),(12,.i .i64 ((b - a:Nat):Int)),(13,.i .i64 ((X.pivot:Nat):Int)),(97,.b (decide (a>0) && !ltI l L X.pi.1[a - 1]! X.pi.1[X.pivot]!))]) (fun _=>gl q [210,201] (ioB l n (X.pi.1))) (fun _=>True) ?_ fun _ _=>?_
  · refine AW.draws mixed_ok ?_
    by_cases g1:(0:Int)<((a:Nat):Int)
    · refine RG.runO ty_ok 0 [(82,.b true)] 400 rfl (by repeat' (first|exact trivial|apply And.intro|exact dT ‹_›|exact dF ‹_›|exact dN ‹_›|exact dM ‹_›|exact dI ‹_›)) ?_
      refine wH rfl ?_;refine RG.opS rfl (op_ixW (a - 1) numF ((X.pi.1).toList) (by omega) rfl (tab_ok ty_ok rfl) rfl (tab_ok ty_ok rfl) rfl rfl rfl (by first | omega | (simp only [IntKind.wrap_i64,Int.ofNat_eq_natCast] <;> omega) | rfl)) rfl ?_;refine RG.opS rfl (op_ldW (a - 1) numF (X.pi.1) (by omega) rfl (tab_ok ty_ok rfl) rfl rfl rfl) rfl ?_
      refine wH rfl ?_;refine RG.opS rfl (op_ixW (X.pivot) numF ((X.pi.1).toList) (by omega) rfl (tab_ok ty_ok rfl) rfl (tab_ok ty_ok rfl) rfl rfl rfl (by first | omega | (simp only [IntKind.wrap_i64,Int.ofNat_eq_natCast] <;> omega) | rfl)) rfl ?_;refine RG.opS rfl (op_ldW (X.pivot) numF (X.pi.1) (by omega) rfl (tab_ok ty_ok rfl) rfl rfl rfl) rfl ?_
      refine wH rfl ?_
      refine RG.ownK [(210,210),(201,201)] [(210,210),(201,201)] 201 201 rfl (fun q=>m_compare l L hL n (X.pi.1) (X.pi.1[a - 1]!) (X.pi.1[X.pivot]!) q (rowFit (by assumption))) rfl rfl rfl rfl rfl rfl rfl rfl rfl rfl rfl rfl rfl ?_
      refine wH rfl ?_;(repeat first|apply wA|apply wB|apply wC|apply wE|(apply zM;·kernel_rfl))
      exact ⟨(),trivial,⟨Rn.rowIs rfl rfl rfl,Rn.is rfl rfl,Rn.is rfl rfl,Rn.is rfl rfl,Rn.fnO rfl rfl rfl,Rn.is rfl rfl,Rn.is rfl rfl,Rn.is rfl rfl,Rn.is rfl rfl,Rn.is (congrArg AV.b (by rw [decide_eq_true (show a>0 by omega),Bool.true_and];rfl)) rfl,trivial⟩,io_end rfl rfl rfl rfl rfl (rfl) (rowFit s3)⟩
    · refine RG.runO ty_ok 0 [(82,.b false)] 400 rfl (by repeat' (first|exact trivial|apply And.intro|exact dT ‹_›|exact dF ‹_›|exact dN ‹_›|exact dM ‹_›|exact dI ‹_›)) ?_
      (repeat first|apply wA|apply wB|apply wC|apply wE|(apply zM;·kernel_rfl))
      exact ⟨(),trivial,⟨Rn.rowIs rfl rfl rfl,Rn.is rfl rfl,Rn.is rfl rfl,Rn.is rfl rfl,Rn.fnO rfl rfl rfl,Rn.is rfl rfl,Rn.is rfl rfl,Rn.is rfl rfl,Rn.is rfl rfl,Rn.is (congrArg AV.b (by rw [decide_eq_false (show ¬a>0 by omega),Bool.false_and])) rfl,trivial⟩,io_end rfl rfl rfl rfl rfl (rfl) (rowFit s3)⟩
  cases hcb:(decide (a>0) && !ltI l L X.pi.1[a - 1]! X.pi.1[X.pivot]!)
  rotate_left
  · rw [if_pos hcb] at hG
    rw [Bool.and_eq_true,decide_eq_true_eq,Bool.not_eq_true'] at hcb
    have hpe:=m_partEq l L hL n hl X.pi.1 s3 a b X.pivot v1 v2 hb
    obtain ⟨⟨mid,d4⟩,hx⟩:∃z,Go.Sort.partitionEqual (ltI l L) X.pi.1 a b X.pivot=z:=⟨_,rfl⟩
    obtain ⟨g1,g2,g3,g4,_⟩:=Go.Sort.round_eq hS (Go.Sort.partitionEqual_holds _) hcb.1 v1 v2 (by omega) B3 hcb.2 hx
    rw [hx] at hpe hG
    simp only at hpe
    rw [if_pos ⟨g1,g2⟩] at hG
    simp only at hG
    have hn4:=g3.trans s3
    refine AW.cond rfl (fun _=>?_) (fun h1=>by cases h1)
    (repeat first|apply wA|apply wB|apply wC|apply wE|(apply zM;·kernel_rfl)|refine zI rfl ?_|refine zJ rfl ?_)
    refine RG.ownK [(210,210),(201,201)] [(210,210),(201,201)] 201 201 (rowLen (g3)) (fun q=>hpe q) rfl rfl rfl rfl rfl rfl rfl rfl rfl rfl rfl rfl rfl ?_
    refine wH rfl ?_;(repeat first|apply wA|apply wB|apply wC|apply wE|(apply zM;·kernel_rfl)|refine zI rfl ?_|refine zJ rfl ?_)
    refine AW.exit ?_;first | (refine Eq.mpr (if_pos rfl) ?_) | (refine Eq.mpr (if_neg (by decide)) ?_;refine Eq.mpr (if_pos rfl) ?_) | (refine Eq.mpr (if_neg (by decide)) ?_;refine Eq.mpr (if_neg (by decide)) ?_;refine Eq.mpr (if_pos rfl) ?_);(repeat first|apply wA|apply wB|apply wC|apply wE|(apply zM;·kernel_rfl)|refine zI rfl ?_|refine zJ rfl ?_)
    exact ⟨((mid,b,X.lim),(wb,wp),d4),⟨⟨⟨g2,hb,by show b - mid≤f;omega,by show X.lim≤1000;omega,hn4,g4⟩,hG⟩,by show b - mid<b - a;omega⟩,⟨Rn.rowIs rfl rfl rfl,Rn.is rfl rfl,Rn.is rfl rfl,Rn.is rfl rfl,Rn.fnO rfl rfl rfl,Rn.is rfl rfl,Rn.is rfl rfl,trivial⟩,io_end rfl rfl rfl rfl rfl (rfl) (rowFit hn4)⟩
  rw [if_neg (by rw [hcb];decide)] at hG
  clear hcb
  have hpt:=m_part l L hL n hl X.pi.1 s3 a b X.pivot v1 v2 hb
  obtain ⟨⟨mid,ap,d4⟩,hx⟩:∃z,Go.Sort.partition (ltI l L) X.pi.1 a b X.pivot=z:=⟨_,rfl⟩
  obtain ⟨g1,g2,g3,g4,g5,g6,g7⟩:=Go.Sort.round_part hS (Go.Sort.partition_holds _) v1 v2 (by omega) B3 hx
  rw [hx] at hpt hG
  simp only at hpt hG
  rw [if_pos ⟨g1,g2⟩] at hG
  have hn4:=g3.trans s3
  have wL:IntKind.i64.wrap (((mid:Nat):Int) - ((a:Nat):Int))=((mid - a:Nat):Int):=by rw [IntKind.wrap_i64];omega
  have wR:IntKind.i64.wrap (((b:Nat):Int) - ((mid:Nat):Int))=((b - mid:Nat):Int):=by rw [IntKind.wrap_i64];omega
  have w8:IntKind.i64.wrap (Int.tdiv ((b - a:Nat):Int) (Int.ofNat 8))=(((b - a) / 8:Nat):Int):=by
    rw [Int.tdiv_eq_ediv_of_nonneg (by omega),IntKind.wrap_i64];simp only [Int.ofNat_eq_natCast];omega
  have wI:IntKind.i64.wrap (((mid:Nat):Int)+Int.ofNat 1)=((mid+1:Nat):Int):=by rw [IntKind.wrap_i64];simp only [Int.ofNat_eq_natCast];omega
  refine AW.cond rfl (fun h1=>by cases h1) (fun _=>?_)
  (repeat first|apply wA|apply wB|apply wC|apply wE|(apply zM;·kernel_rfl)|refine zI rfl ?_|refine zJ rfl ?_)
  refine RG.ownK [(210,210),(201,201)] [(210,210),(201,201)] 201 201 (rowLen (g3)) (fun q=>hpt q) rfl rfl rfl rfl rfl rfl rfl rfl rfl rfl rfl rfl rfl ?_
  refine wH rfl ?_;(repeat first|apply wA|apply wB|apply wC|apply wE|(apply zM;·kernel_rfl));refine wF ?_;refine wH rfl ?_;(repeat first|apply wA|apply wB|apply wC|apply wE|(apply zM;·kernel_rfl))
  refine AW.text ?_
  refine RG.runO ty_ok 0 [(117,.i .i64 ((mid - a:Nat):Int)),(120,.i .i64 ((b - mid:Nat):Int))] 400 rfl (by repeat' (first|exact trivial|apply And.intro|exact dT ‹_›|exact dF ‹_›|exact dN ‹_›|exact dM ‹_›|exact dI ‹_›)) ?_
  (repeat first|apply wA|apply wB|apply wC|apply wE|(apply zM;·kernel_rfl))
  refine AW.text ?_
  refine RG.runO ty_ok 0 [(122,.i .i64 (((b - a) / 8:Nat):Int))] 400 rfl (by repeat' (first|exact trivial|apply And.intro|exact dT ‹_›|exact dF ‹_›|exact dN ‹_›|exact dM ‹_›|exact dI ‹_›)) ?_
  (repeat first|apply wA|apply wB|apply wC|apply wE|(apply zM;·kernel_rfl)|refine zI rfl ?_|refine zJ rfl ?_)
  refine AW.cond rfl (fun h2=>?_) (fun h2=>?_)
  · have k2 : mid - a < b - mid := by
      have:=of_decide_eq_true h2
      omega
    rw [if_pos k2] at hG
    have ih:=IH (mid - a) (by omega) a mid X.lim d4 hn4 g1 (by omega) (Nat.le_refl _) (by omega) g4
    obtain ⟨l1,l2⟩:=Go.Sort.pdq_sorts (ltI l L) hS d4 a mid X.lim true true g1 (by omega) g4
    obtain ⟨l3,_⟩:=g6 _ l1 l2
    have hn5:=l1.1.trans hn4
    (repeat first|apply wA|apply wB|apply wC|apply wE|(apply zM;·kernel_rfl)|refine zI rfl ?_|refine zJ rfl ?_)
    refine RG.ownK [(210,210),(201,201)] [(210,210),(201,201)] 201 201 (rowLen (l1.1)) (fun q=>ih q) rfl rfl rfl rfl rfl rfl rfl rfl rfl rfl rfl rfl rfl ?_
    refine wH rfl ?_;(repeat first|apply wA|apply wB|apply wC|apply wE|(apply zM;·kernel_rfl)|refine zI rfl ?_|refine zJ rfl ?_)
    exact ⟨((mid+1,b,X.lim),(decide (mid - a≥(b - a) / 8),ap),Go.Sort.pdq (ltI l L) d4 a mid X.lim true true),⟨⟨⟨by show mid+1≤b;omega,hb,by show b - (mid+1)≤f;omega,by show X.lim≤1000;omega,hn5,l3⟩,hG⟩,by show b - (mid+1)<b - a;omega⟩,⟨Rn.rowIs rfl rfl rfl,Rn.is (congrArg (AV.i .i64) wI) rfl,Rn.is rfl rfl,Rn.is rfl rfl,Rn.fnO rfl rfl rfl,Rn.is (congrArg AV.b (decide_eq_decide.2 (by omega))) rfl,Rn.is rfl rfl,trivial⟩,io_end rfl rfl rfl rfl rfl (rfl) (rowFit hn5)⟩
  · have k2 : ¬ mid - a < b - mid := by
      have:=of_decide_eq_false h2
      omega
    rw [if_neg k2] at hG
    have ih:=IH (b - (mid+1)) (by omega) (mid+1) b X.lim d4 hn4 (by omega) hb (Nat.le_refl _) (by omega) g5
    obtain ⟨l1,l2⟩:=Go.Sort.pdq_sorts (ltI l L) hS d4 (mid+1) b X.lim true true (by omega) (by omega) g5
    obtain ⟨l3,_⟩:=g7 _ l1 l2
    have hn5:=l1.1.trans hn4
    (repeat first|apply wA|apply wB|apply wC|apply wE|(apply zM;·kernel_rfl));refine wF ?_;refine wH rfl ?_;(repeat first|apply wA|apply wB|apply wC|apply wE|(apply zM;·kernel_rfl))
    refine AW.text ?_
    refine RG.runO ty_ok 0 [(142,.i .i64 ((mid+1:Nat):Int))] 400 rfl (by repeat' (first|exact trivial|apply And.intro|exact dT ‹_›|exact dF ‹_›|exact dN ‹_›|exact dM ‹_›|exact dI ‹_›)) ?_
    refine RG.ownK [(210,210),(201,201)] [(210,210),(201,201)] 201 201 (rowLen (l1.1)) (fun q=>ih q) rfl rfl rfl rfl rfl rfl rfl rfl rfl rfl rfl rfl rfl ?_
    refine wH rfl ?_;(repeat first|apply wA|apply wB|apply wC|apply wE|(apply zM;·kernel_rfl)|refine zI rfl ?_|refine zJ rfl ?_)
    exact ⟨((a,mid,X.lim),(decide (b - mid≥(b - a) / 8),ap),Go.Sort.pdq (ltI l L) d4 (mid+1) b X.lim true true),⟨⟨⟨g1,by show mid≤n;omega,by show mid - a≤f;omega,by show X.lim≤1000;omega,hn5,l3⟩,hG⟩,by show mid - a<b - a;omega⟩,⟨Rn.rowIs rfl rfl rfl,Rn.is rfl rfl,Rn.is rfl rfl,Rn.is rfl rfl,Rn.fnO rfl rfl rfl,Rn.is (congrArg AV.b (decide_eq_decide.2 (by omega))) rfl,Rn.is rfl rfl,trivial⟩,io_end rfl rfl rfl rfl rfl (rfl) (rowFit hn5)⟩
end Go.Proofs.YtahjjfhjjbgjaaaGreat.Sm
end
section
namespace Go.Proofs.YtahjjfhjjbgjaaaGreat.Sm
open Go.RowKit
open Go.Sort (swp)
open Go.Sort (SWO Below PermIn SortedIn)
theorem ltI_iff {l:List Rl} {L:Nat} {x y:Fin (L+1)}:ltI l L x y=true↔prioAt l y.1<prioAt l x.1∨(prioAt l y.1=prioAt l x.1∧x.1<y.1):=by
  rw [ltI,decide_eq_true_eq,cmpR]
  generalize prioAt l y.1=p
  generalize prioAt l x.1=r
  by_cases h1:p<r
  · have e:cmpI p r = -1:=by rw [cmpI,if_pos h1]
    rw [e]
    exact ⟨fun _=>.inl h1,fun _=>by rw [orI,if_pos (by decide)];decide⟩
  by_cases h2:r<p
  · have e:cmpI p r=1:=by rw [cmpI,if_neg h1,if_pos h2]
    rw [e]
    exact ⟨fun h=>absurd h (by simp [orI]),fun h=>by omega⟩
  have e:cmpI p r=0:=by rw [cmpI,if_neg h1,if_neg h2]
  rw [e]
  have hpr:p=r:=by omega
  by_cases h3:x.1<y.1
  · have e:cmpI ((x.1:Nat):Int) ((y.1:Nat):Int) = -1:=by rw [cmpI,if_pos (by omega)]
    rw [e]
    exact ⟨fun _=>.inr ⟨hpr,h3⟩,fun _=>by decide⟩
  by_cases h4:y.1<x.1
  · have e:cmpI ((x.1:Nat):Int) ((y.1:Nat):Int)=1:=by rw [cmpI,if_neg (by omega),if_pos (by omega)]
    rw [e]
    exact ⟨fun h=>absurd h (by simp [orI]),fun h=>by omega⟩
  have e:cmpI ((x.1:Nat):Int) ((y.1:Nat):Int)=0:=by rw [cmpI,if_neg (by omega),if_neg (by omega)]
  rw [e]
  exact ⟨fun h=>absurd h (by simp [orI]),fun h=>by omega⟩
theorem ltI_no {l:List Rl} {L:Nat} {x y:Fin (L+1)}:ltI l L x y=false↔¬(prioAt l y.1<prioAt l x.1∨(prioAt l y.1=prioAt l x.1∧x.1<y.1)):=by
 rw [← ltI_iff,Bool.not_eq_true]
theorem swo_ltI (l:List Rl) (L:Nat):SWO (ltI l L) where
 irrefl x:=by rw [ltI_no];omega
 trans x y z h1 h2:=by rw [ltI_iff] at *;omega
 ntrans x y z h1 h2:=by rw [ltI_no] at *;omega
theorem m_sortI (l:List Rl) (L:Nat) (hL:l.length=L+1) (n:Nat) (hl:n≤100000) (h256:n<256) (d:Array (Fin (L+1))) (hn:d.size=n) (q:Nat→Option (Nat × Nat)):MDoes Tryz.prog 222 [.row 201 0 0 n,.fn 223 [.own 210 0 0] []] (gl q [210,201] (ioB l n (d))) (.tup []) (gl q [210,201] (ioB l n (Go.Sort.pdq (ltI l L) d 0 n (Go.Sort.bitsLen n) true true))):=by
 refine MDoes.of_body Tryz.func222 rfl (by kernel_rfl) rfl rfl ?_
 have hr:=d_LenX (ofI64 ((n:Nat):Int)) (by rw [ofI_len h256];exact h256)
 rw [ofI_len h256] at hr
 have h8:=bitsLen_8 h256
 have hp:=m_pdq l L hL n hl h256 (swo_ltI l L) n 0 n (Go.Sort.bitsLen n) d hn (Nat.zero_le _) (Nat.le_refl _) (Nat.sub_le _ _) (by omega) (.inl rfl)
 obtain ⟨l1,_⟩:=Go.Sort.pdq_sorts (ltI l L) (swo_ltI l L) d 0 n (Go.Sort.bitsLen n) true true (Nat.zero_le _) (by omega) (.inl rfl)
 (repeat first|apply wA|apply wB|apply wC|apply wE|(apply zM;·kernel_rfl)|refine zI rfl ?_|refine zJ rfl ?_)
 refine RG.callS rfl rfl rfl rfl rfl hr rfl rfl ?_
 refine wH rfl ?_
 refine RG.ownK [(210,210),(201,201)] [(210,210),(201,201)] 201 201 (rowLen (l1.1)) (fun q=>hp q) rfl rfl rfl rfl rfl rfl rfl rfl rfl rfl rfl rfl rfl ?_
 refine wH rfl ?_;(repeat first|apply wA|apply wB|apply wC|apply wE|(apply zM;·kernel_rfl)|refine zI rfl ?_|refine zJ rfl ?_)
 exact retM0 rfl (.inl rfl) (io_end rfl rfl rfl rfl rfl (rfl) (rowFit (l1.1.trans hn)))
def idsA (L:Nat):Array (Fin (L+1)):=Array.ofFn id
theorem idsA_sz (L:Nat):(idsA L).size=L+1:=by simp [idsA]
theorem idsA_val (L:Nat):(idsA L).toList.map (fun x=>x.1)=List.range (L+1):=by
 apply List.ext_getElem
 ·simp [idsA]
 ·intro i h1 h2
  rw [List.getElem_map,Array.getElem_toList]
  simp only [idsA,Array.getElem_ofFn,List.getElem_range]
  rfl
theorem idsA_row (L:Nat):(List.range (L+1)).map numN=(idsA L).toList.map numF:=by
 rw [← idsA_val,List.map_map];rfl
theorem extract_all {α:Type} (d:Array α) {n:Nat} (h:d.size=n):d.extract 0 n=d:=by
 subst h
 simp
theorem rowAllF {L:Nat} {D:Array (Fin (L+1))} (h:D.size=L+1):AV.sl (((D.toList.map numF).drop 0).take (L+1))=AV.sl (D.toList.map numF):=by
 rw [List.drop_zero,List.take_of_length_le (by rw [List.length_map,Array.length_toList,h];exact Nat.le_refl _)]
theorem look_any (l:List Rl) (hl:l.length<256):LookOk l:=by
  cases hlen:l.length with
  | zero =>
    obtain rfl:l=[]:=List.length_eq_zero_iff.1 hlen
    exact look_falls (fun k x y h=>by simp at h) (by decide)
  | succ L =>
  have hS:=swo_ltI l L
  obtain ⟨l1,l2⟩:=Go.Sort.pdq_sorts (ltI l L) hS (idsA L) 0 (L+1) (Go.Sort.bitsLen (L+1)) true true (Nat.zero_le _) (by rw [idsA_sz];exact Nat.le_refl _) (.inl rfl)
  have hm:=m_sortI l L hlen (L+1) (by omega) (by omega) (idsA L) (idsA_sz L)
  generalize Go.Sort.pdq (ltI l L) (idsA L) 0 (L+1) (Go.Sort.bitsLen (L+1)) true true=D at l1 l2 hm
  have hD:D.size=L+1:=l1.1.trans (idsA_sz L)
  refine ⟨D.toList.map (fun x=>x.1),?_,?_,?_⟩
  · have h3:=l1.2.2
    rw [extract_all _ hD,extract_all _ (idsA_sz L)] at h3
    rw [hlen,← idsA_val]
    exact h3.map _
  · rw [List.pairwise_iff_getElem]
    intro i j hi hj hij
    rw [List.length_map,Array.length_toList] at hi hj
    have h4:=l2 i j (Nat.zero_le _) hij (by omega)
    rw [ltI_no] at h4
    rw [List.getElem_map,List.getElem_map,Array.getElem_toList,Array.getElem_toList,← getElem!_pos D i hi,← getElem!_pos D j hj]
    generalize D[i]! = x at h4
    generalize D[j]! = y at h4
    show prioAt l y.1<prioAt l x.1∨(prioAt l y.1=prioAt l x.1∧x.1≤y.1)
    omega
  rw [show (D.toList.map (fun x=>x.1)).map numN=D.toList.map numF by rw [List.map_map];rfl]
  refine PDoes.of_bodyN Tryz.func210 rfl (by kernel_rfl) rfl rfl ?_
  (repeat first|apply wA|apply wB|apply wC|apply wE|(apply zM;·kernel_rfl));refine wF ?_;refine wH rfl ?_;(repeat first|apply wA|apply wB|apply wC|apply wE|(apply zM;·kernel_rfl));refine wF ?_;refine wH rfl ?_;(repeat first|apply wA|apply wB|apply wC|apply wE|(apply zM;·kernel_rfl))
  refine AW.nilRow 40 0 3 1 [(0,.sl (l.map cRl)),(3,.own 7 0 0)] [(7,⟨0,some (.box 287 [.sl (l.map cRl),.row 40 0 0 0])⟩),(40,⟨0,some (.row 3 1 [])⟩)] ⟨.rn (Rn.is rfl rfl),.rn (Rn.ownIs rfl rfl rfl),trivial⟩ ⟨.boxL rfl ⟨RnN.is rfl rfl,.nil rfl,trivial⟩ rfl,.old (.row rfl rfl),trivial⟩ ?_
  (repeat first|apply wA|apply wB|apply wC|apply wE|(apply zM;·kernel_rfl)|refine zI rfl ?_|refine zJ rfl ?_)
  have hmx:l.length≤9223372036854775807:=by omega
  refine AW.loopL (ι:=Nat × List Nat) (fun i=>[(3,.own 7 0 0),(8,.sl (l.map cRl)),(9,.i .i64 (l.map cRl).length),(10,.i .i64 (i.1:Nat))]) (fun i=>[(7,⟨0,some (.box 287 [.sl (l.map cRl),.row 40 0 0 (i.2.map numN).length])⟩),(40,⟨0,some (.row 3 1 (i.2.map numN))⟩)]) (fun i=>i.1≤l.length∧i.2=List.range i.1) (fun i=>l.length - i.1) (0,[]) ⟨Nat.zero_le _,rfl⟩ (by repeat(first|exact trivial|refine ⟨rI rfl rfl,?_⟩|refine ⟨rO rfl rfl rfl,?_⟩|refine ⟨rR rfl rfl rfl,?_⟩|refine ⟨bR rfl rfl,?_⟩|refine ⟨bS rfl rfl rfl,?_⟩)) ⟨.boxL rfl ⟨Rn.is rfl rfl,Rn.rowIs rfl rfl rfl,trivial⟩ rfl,.row rfl rfl,trivial⟩ fun i hi=>?_
  obtain ⟨k,out⟩:=i
  obtain ⟨hk,ho⟩:=hi
  simp only at hk ho
  (repeat first|apply wA|apply wB|apply wC|apply wE|(apply zM;·kernel_rfl)|refine zI rfl ?_|refine zJ rfl ?_)
  refine AW.cond rfl (fun h0=>?_) (fun h0=>?_)
  · have h:k<l.length:=by simpa using h0
    have hL:out.length≤100000000:=by rw [ho,List.length_range];omega
    (repeat first|apply wA|apply wB|apply wC|apply wE|(apply zM;·kernel_rfl)|refine zI rfl ?_|refine zJ rfl ?_)
    refine RG.opS rfl (op_app1 numN out k hL rfl rfl rfl rfl (tab_ok ty_ok rfl) rfl (tab_ok ty_ok rfl) rfl rfl ⟨_,rfl,rfl⟩ rfl rfl) rfl ?_;refine wH rfl ?_;(repeat first|apply wA|apply wB|apply wC|apply wE|(apply zM;·kernel_rfl)|refine zI rfl ?_|refine zJ rfl ?_)
    exact ⟨(k+1,out++[k]),⟨⟨h,by show out++[k]=List.range (k+1);rw [ho,List.range_succ]⟩,by show l.length - (k+1)<l.length - k;omega⟩,(by repeat(first|exact trivial|refine ⟨rI rfl rfl,?_⟩|refine ⟨rI (i64_next (by assumption) (by first|assumption|decide)) rfl,?_⟩|refine ⟨rO rfl rfl rfl,?_⟩|refine ⟨rR rfl rfl rfl,?_⟩|refine ⟨bR rfl rfl,?_⟩|refine ⟨bS rfl rfl rfl,?_⟩)),⟨.boxL rfl ⟨Rn.is rfl rfl,Rn.rowIs rfl rfl rfl,trivial⟩ rfl,.row rfl rfl,trivial⟩⟩
  · have h:¬k<l.length:=by simpa using h0
    obtain rfl:k=l.length:=by omega
    rw [hlen] at ho
    have hrow:out.map numN=(idsA L).toList.map numF:=by rw [ho,idsA_row]
    have hlo:(out.map numN).length=L+1:=by rw [hrow,List.length_map,Array.length_toList,idsA_sz]
    refine AW.only [(3,.own 7 0 0)] [(7,⟨0,some (.box 287 [.sl (l.map cRl),.row 40 0 0 (L+1)])⟩),(40,⟨0,some (.row 3 1 ((idsA L).toList.map numF))⟩)] ⟨Rn.ownIs rfl rfl rfl,trivial⟩ ⟨.boxL rfl ⟨Rn.is rfl rfl,Rn.rowTIs (by rw [← hlo]) rfl rfl (rowFit (idsA_sz L)),trivial⟩ rfl,.row rfl hrow,trivial⟩ ?_
    (repeat first|apply wA|apply wB|apply wC|apply wE|(apply zM;·kernel_rfl)|refine zI rfl ?_|refine zJ rfl ?_)
    refine AW.exit ?_;refine Eq.mpr (if_pos rfl) ?_;(repeat first|apply wA|apply wB|apply wC|apply wE|(apply zM;·kernel_rfl)|refine zI rfl ?_|refine zJ rfl ?_)
    refine RG.ownK [(7,210),(40,201)] [(210,7),(201,40)] 40 201 (rowLen l1.1) hm rfl rfl rfl rfl rfl rfl rfl rfl rfl rfl rfl rfl rfl ?_
    refine wH rfl ?_;(repeat first|apply wA|apply wB|apply wC|apply wE|(apply zM;·kernel_rfl)|refine zI rfl ?_|refine zJ rfl ?_)
    refine AW.ret (retQA ty_ok rfl rfl rfl ?_)
    exact rowAllF hD
end Go.Proofs.YtahjjfhjjbgjaaaGreat.Sm
end
section
namespace Go.Proofs.YtahjjfhjjbgjaaaGreat.Sm
open Go.RowKit Go.WideShapes Go.ChangeShapes Go.Deep
section
variable {H : Type} {P : Program}
theorem weights_all {e:TypeId}:∀{ds:List (DataW H)} {d:DataW H},d∈ds→∀n∈d.weights P e,n∈DataW.weightsAll P e ds
 | d0::ds,d,hd,n,hn=>by
  simp only [DataW.weightsAll,List.mem_append]
  rcases List.mem_cons.1 hd with rfl | hd
  ·exact .inl hn
  ·exact .inr (weights_all hd n hn)
end
def RdZ {α:Type} (P:Program) (t:TypeId) (R:Rep α) (Q:α→Prop):Prop :=
 ∀(H:Type) (enc:TypeId × Value→H) (w:World) (base:Nat) (spare:Nat→Bool) (held:Bool) (fuel:Nat) (cs:List Value) (x:DataW H × List MemPlace),
  DataW.trod enc P w base spare held fuel t cs=some x→(∀k∈x.1.weights P t,k≤reachBytes)→∃a:α,R.rel w (fun b=>b<w.heap.size) a cs∧Q a
theorem all2_and {α:Type} {r:α→List Value→Prop} {Q:α→Prop}:∀{xs:List α} {cs:List Value},All2 (fun a c=>r a c∧Q a) xs cs→All2 r xs cs∧∀a∈xs,Q a
 | [],cs,h=>⟨h,fun a ha=>by cases ha⟩
 | x::xs,cs,⟨c1,c2,h1,h2,h3⟩=>by
  obtain ⟨g1,g2⟩:=all2_and h3
  refine ⟨⟨c1,c2,h1,h2.1,g1⟩,fun a ha=>?_⟩
  rcases List.mem_cons.1 ha with rfl | ha
  ·exact h2.2
  ·exact g2 a ha
theorem RdZ.slice {α:Type} {P:Program} {t e:TypeId} {R:Rep α} {Q:α→Prop} (hR:RdZ P e R Q) (ht:P.underlying t=some (.slice e)) (hn:P.cellsOf e=R.n) (h0:0<R.n) (hb:0<P.bytesOf e):RdZ P t R.slice (fun l=>l.length≤reachBytes∧∀a∈l,Q a):=by
  intro H enc w base spare held fuel cs x hx hz
  rcases open_slice ht hx with ⟨rfl,_⟩ | ⟨a,len,cap,m,n,D,Pl,rfl,_,hlc,hcm,hm,rfl,hel⟩
  · exact ⟨[],⟨_,rfl,SliceAt.nil _ _ _⟩,Nat.zero_le _,fun a ha=>by cases ha⟩
  · have hlm:len≤m:=by rw [hm];split <;> omega
    simp only [DataW.weights,ht] at hz
    have hlen:len≤reachBytes:=by
      have h1:=hz _ List.mem_cons_self
      rw [List.length_map,List.length_range] at h1
      have h2:len*1≤(len+(List.map (fun j=>D (len+j)) (List.range (m - len))).length)*P.bytesOf e:=Nat.mul_le_mul (Nat.le_add_right _ _) hb
      omega
    have hzi:∀i,i<len→∀k∈(D i).weights P e,k≤reachBytes:=fun i hi k hk=>by
      refine hz k (List.mem_cons_of_mem _ (List.mem_append_left _ ?_))
      exact weights_all (List.mem_map_of_mem (List.mem_range.2 hi)) k hk
    by_cases hp:0<len
    · have hspot : a = ⟨a.block, a.off, none⟩ ∧ a.block < w.heap.size := by
        obtain ⟨cs',hc,_⟩:=hel 0 (by omega)
        obtain ⟨_,hl,hat⟩:=World.cells?_some hc
        have h1:=hat 0 (by rw [hn];exact h0)
        have e:(a.add (0*P.cellsOf e)).add 0=a:=by simp [Addr.add]
        rw [e,List.getElem?_eq_getElem (by rw [hl,hn];exact h0)] at h1
        refine ⟨?_,World.block_lt_of_cell? w a h1⟩
        unfold World.cell? at h1
        split at h1
        · split at h1
          · cases h1
          · rename_i hs
            obtain ⟨ab,ao,asp⟩:=a
            cases asp with
            | none=>rfl
            | some k=>simp at hs
        · cases h1
      obtain ⟨xs,cells,h1,h2,h3⟩:=all2_collect (r:=fun a c=>R.rel w (fun b=>b<w.heap.size) a c∧Q a) (n:=R.n) (fun _ _ h=>R.len h.1) w a.block a.off len fun i hi=>by
        obtain ⟨cs',hc,ht'⟩:=hel i (by omega)
        obtain ⟨y,hy,hq⟩:=hR H enc w base spare held n cs' _ ht' (hzi i hi)
        obtain ⟨_,hl,hat⟩:=World.cells?_some hc
        refine ⟨y,cs',⟨hy,hq⟩,fun j u hu=>?_⟩
        have hj:j<P.cellsOf e:=by have:=(List.getElem?_eq_some_iff.1 hu).1;omega
        have:=hat j hj
        rw [hu,hn,hspot.1] at this
        rw [show ((⟨a.block,a.off,none⟩:Addr).add (i*R.n)).add j=⟨a.block,a.off+(i*R.n+j),none⟩ by
          unfold Addr.add
          by_cases h1:i*R.n=0 <;> by_cases h2:j=0 <;> simp [h1,h2,Nat.add_assoc]] at this
        exact this
      obtain ⟨g1,g2⟩:=all2_and h2
      exact ⟨xs,⟨_,rfl,some a,cap,by rw [h1],by omega,hcm,fun _=>⟨a.block,a.off,by rw [← hspot.1],hspot.2,hspot.2,cells,g1,h3⟩⟩,by rw [h1];exact hlen,g2⟩
    · obtain rfl:len=0:=by omega
      exact ⟨[],⟨_,rfl,some a,cap,rfl,Nat.zero_le _,hcm,fun h=>absurd h (Nat.lt_irrefl _)⟩,Nat.zero_le _,fun a ha=>by cases ha⟩
structure RdA {α:Type} (P:Program) (t:TypeId) (n:Nat) (enc:α→List AV) (Q:α→Prop):Prop where
 len:∀a,(enc a).length=n
 one:∀a,∀y∈enc a,y.one=true
 read:∀(H:Type) (e:TypeId × Value→H) (w:World) (base:Nat) (spare:Nat→Bool) (held:Bool) (fuel:Nat) (cs:List Value) (x:DataW H × List MemPlace),
  DataW.trod e P w base spare held fuel t cs=some x→(∀k∈x.1.weights P t,k≤reachBytes)→∃a:α,PWs w (fun b=>b<w.heap.size) (enc a) cs∧Q a
section
variable {P : Program} {t : TypeId}
theorem RdA.of {α:Type} {n:Nat} {enc:α→List AV} (h:ReadA P t n enc):RdA P t n enc (fun _=>True):=⟨h.len,h.one,fun H e w base spare held fuel cs x hx _=>by
 obtain ⟨a,ha⟩:=h.read H e w base spare held fuel cs x hx
 exact ⟨a,ha,trivial⟩⟩
theorem RdA.slice {α:Type} {e:TypeId} {n:Nat} {enc:α→List AV} {Q:α→Prop} (h:RdA P e n enc Q) (ht:P.underlying t=some (.slice e)) (hn:P.cellsOf e=n) (h0:0<n) (hb:0<P.bytesOf e):RdA P t 1 (fun l:List α=>[.sl (l.map enc)]) (fun l=>l.length≤reachBytes∧∀a∈l,Q a):=by
 have E:=(avR_enc h.len h.one).slice h0
 refine ⟨E.len,E.one,fun H e w base spare held fuel cs x hx hz=>?_⟩
 have hR:RdZ P _ (avR n enc h.len h.one) Q:=fun H e w base spare held fuel cs x hx hz=>h.read H e w base spare held fuel cs x hx hz
 obtain ⟨a,ha,hq⟩:=hR.slice ht hn h0 hb H e w base spare held fuel cs x hx hz
 exact ⟨a,⟨by rw [(avR n enc h.len h.one).slice.len ha,E.len],fun j y hj=>E.one a y (List.mem_of_getElem? hj),fun j y v hj hv=>E.to ha j y v hj hv⟩,hq⟩
theorem RdA.part {α:Type} {ty n off:Nat} {enc:α→List AV} {Q:α→Prop} (h:RdA P ty n enc Q) {H:Type} {e:TypeId × Value→H} {w:World} {base:Nat} {spare:Nat→Bool} {held:Bool} {cs:List Value} {m:Nat}
  (hp:∃y,DataW.trod e P w base spare held m ty ((cs.drop off).take n)=some y∧∀k∈y.1.weights P ty,k≤reachBytes):∃a:α,PWs w (fun b=>b<w.heap.size) (enc a) ((cs.drop off).take n)∧Q a:=by
 obtain ⟨y,hy,hz⟩:=hp
 exact h.read H e w base spare held m _ y hy hz
theorem struct_partZ {fs:Array Field} (ht:P.underlying t=some (.struct fs)) {H:Type} {enc:TypeId × Value→H} {w:World} {base:Nat} {spare:Nat→Bool} {held:Bool} {fuel:Nat} {cs:List Value} {x:DataW H × List MemPlace}
  (hx:DataW.trod enc P w base spare held fuel t cs=some x) (hz:∀k∈x.1.weights P t,k≤reachBytes):∃m,cs.length=P.cellsOf t∧∀(j ty off n:Nat),(fs[j]?).map (fun f=>(f.type,f.offset))=some (ty,off)→P.cellsOf ty=n →
   ∃y,DataW.trod enc P w base spare held m ty ((cs.drop off).take n)=some y∧∀k∈y.1.weights P ty,k≤reachBytes:=by
 obtain ⟨xs,n,_,rfl,hl,hxs,hf⟩:=DataW.trod_struct ht hx
 simp only [DataW.weights,ht] at hz
 refine ⟨n,hl,fun j ty off k hj hk=>?_⟩
 cases hfj:fs[j]? with
 | none=>rw [hfj] at hj;cases hj
 | some f =>
  rw [hfj] at hj
  simp only [Option.map_some,Option.some.injEq,Prod.mk.injEq] at hj
  have h:=hf j f hfj
  rw [hj.1,hj.2,hk] at h
  have hlt:j<xs.length:=by rw [hxs];exact (Array.getElem?_eq_some_iff.1 hfj).1
  refine ⟨xs[j],by rw [h,List.getElem?_eq_getElem hlt],fun n' hn'=>hz n' ?_⟩
  refine DataW.weights_mem_each (j:=j) (t:=ty) (d:=xs[j].1) ?_ ?_ n' hn'
  ·rw [List.getElem?_map,Array.getElem?_toList,hfj,Option.map_some,hj.1]
  ·rw [List.getElem?_map,List.getElem?_eq_getElem hlt];rfl
variable {H : Type} {e : TypeId × Value → H} {W : World} {base b0 : Nat} {spare : Nat → Bool} {held : Bool} {v : Value} {d : DataW H} {p : List MemPlace}
theorem RdA.arg_struct {α:Type} {n:Nat} {enc:α→List AV} {Q:α→Prop} (h:RdA P t n enc Q) {fs:Array Field} (ht:P.underlying t=some (.struct fs)) {ts:List TypeId} {ds:List (DataW H)} (hsz:(DataW.weightsEach P ts ds).all (·≤reachBytes)=true) (j:Nat) (hj:ts[j]?=some t) (hdj:ds[j]?=some d) (ho:Value.okWide P W .any b0 t v) (hd:DataW.Trod e P W base spare held t v d p) :
  ∃a:α,PRel W (fun b=>b<W.heap.size) (.agg (enc a)) v∧Q a:=by
 obtain ⟨cs,rfl,hs⟩:=okWide_struct ht ho
 obtain ⟨fuel,hf⟩:=hd
 obtain ⟨a,ha,hq⟩:=h.read H e W base spare held fuel _ _ hf fun k hk=>by
  have:=List.all_eq_true.1 hsz _ (DataW.weights_mem_each hj hdj k hk)
  simpa using this
 have hc:(Value.cells (.agg cs)).toList=cs.toList:=by simp [Value.cells]
 rw [hc] at ha
 refine ⟨a,?_,hq⟩
 have:=PRel.agg (W:=W) (F:=fun b=>b<W.heap.size) (enc a) cs.toList ha.len ha.one ha.rel
 simpa using this
end
def Cf.Lens (c:Cf):Prop:=∀t∈c.tables,∀l∈t,l.length≤reachBytes
theorem rz_Rls:RdA Tryz.prog 58 1 (fun l:List (Rl)=>[.sl (l.map cRl)]) (fun l=>l.length≤reachBytes∧∀a∈l,True):=(RdA.of ra_Rl).slice Tryz.underlying58 (by kernel_rfl) (by decide) (Nat.le_of_ble_eq_true (by kernel_rfl))
theorem rz_Tab:RdA Tryz.prog 57 1 (fun l:List (List Rl)=>[.sl (l.map cRls)]) (fun l=>l.length≤reachBytes∧∀a∈l,a.length≤reachBytes∧∀b∈a,True):=rz_Rls.slice Tryz.underlying57 (by kernel_rfl) (by decide) (Nat.le_of_ble_eq_true (by kernel_rfl))
theorem rz_Tabs:RdA Tryz.prog 29 1 (fun l:List (List (List Rl))=>[.sl (l.map cTab)]) (fun l=>l.length≤reachBytes∧∀a∈l,a.length≤reachBytes∧∀b∈a,b.length≤reachBytes∧∀c∈b,True):=rz_Tab.slice Tryz.underlying29 (by kernel_rfl) (by decide) (Nat.le_of_ble_eq_true (by kernel_rfl))
theorem rz_Cf:RdA Tryz.prog 31 5 (α:=Cf) cCf Cf.Lens:=by
 refine ⟨fun _=>rfl,fun a=>List.all_eq_true.1 rfl,fun H e w base spare held fuel cs x hx hz=>?_⟩
 obtain ⟨m,hl,hp⟩:=struct_partZ Tryz.underlying31 hx hz
 have hl:cs.length=5:=hl.trans (by kernel_rfl)
 obtain ⟨a0,h0,_⟩:=(RdA.of ra_Topo).part (hp 0 24 0 1 rfl (by kernel_rfl))
 obtain ⟨a1,h1,_⟩:=(RdA.of ra_Pol).part (hp 1 28 1 3 rfl (by kernel_rfl))
 obtain ⟨a2,h2,q2⟩:=rz_Tabs.part (hp 2 29 4 1 rfl (by kernel_rfl))
 refine ⟨⟨a0,a1,a2⟩,PWs.all ?_,fun t ht l hl=>((q2.2 t ht).2 l hl).1⟩
 exact h0.join rfl (h1.join rfl (h2.join rfl (PWs.nil hl)))
end Go.Proofs.YtahjjfhjjbgjaaaGreat.Sm
end
section
namespace Go.Proofs.YtahjjfhjjbgjaaaGreat.Sm
open Go.RowKit
def lnCube:Cb:=⟨⟨0,1⟩,⟨0,1⟩⟩
def lnDrop:Rl:=⟨0,Cb.zero,⟨1,0,0,Cb.zero⟩⟩
def lnR0:List Rl:=[⟨1,lnCube,⟨3,1,0,Cb.zero⟩⟩,lnDrop]
def lnR1:List Rl:=[⟨1,lnCube,⟨2,1,0,Cb.zero⟩⟩,lnDrop]
def lnPorts:List (List Pt):=[[⟨1,0,0,0,0⟩,⟨2,0,1,0,1⟩],[⟨2,0,0,1,1⟩,⟨1,0,0,0,0⟩]]
def lineC:Cf:=⟨⟨lnPorts⟩,⟨1,[],[]⟩,[[lnR0],[lnR1]]⟩
def lnB:List (Nat × SB):=[(300,⟨0,some (.box 57 [.ref 301 0 (.sl 0 1 1),.ref 302 0 (.sl 0 1 1)])⟩),(301,⟨0,some (.box 58 [.row 24 0 0 2])⟩),(302,⟨0,some (.box 58 [.row 30 0 0 2])⟩),(24,⟨0,some (.row 54 12 (lnR0.map cRl))⟩),(30,⟨0,some (.row 54 12 (lnR1.map cRl))⟩),(12,⟨0,some (.row 111 1 (lnPorts.map cPts))⟩)]
def lnV:AV:=.agg [.row 12 0 0 2,.i .i64 1,.sl [],.sl [],.ref 300 0 (.sl 0 2 2)]
def RmL (π:List (Nat × Nat)) (σ σ':Sto):List AV→List AV→Prop
 | [],[]=>True
 | x::xs,y::ys=>(Rm π σ σ' x y∧y.one=true)∧RmL π σ σ' xs ys
 | _,_=>False
theorem RmL.ok {π:List (Nat × Nat)} {σ σ':Sto}:∀{xs ys:List AV},RmL π σ σ' xs ys→ys.length=xs.length∧∀(j:Nat) (x y:AV),xs[j]?=some x→ys[j]?=some y→Rm π σ σ' x y∧y.one=true
 | [],[],_=>⟨rfl,fun j x y h=>by simp at h⟩
 | x::xs,y::ys,h=>by
  obtain ⟨h1,h2⟩:=h
  obtain ⟨g1,g2⟩:=RmL.ok h2
  refine ⟨by rw [List.length_cons,List.length_cons,g1],fun j a b ha hb=>?_⟩
  cases j with
  | zero =>
   obtain rfl:x=a:=by simpa using ha
   obtain rfl:y=b:=by simpa using hb
   exact h1
  | succ j=>exact g2 j a b (by simpa using ha) (by simpa using hb)
 | [],y::ys,h=>h.elim
 | x::xs,[],h=>h.elim
theorem Rm.aggL {π:List (Nat × Nat)} {σ σ':Sto} {z:AV} {xs ys:List AV} (e:z = .agg xs) (h:RmL π σ σ' xs ys):Rm π σ σ' z (.agg ys):=by
 subst e
 obtain ⟨g1,g2⟩:=h.ok
 refine .agg g1 (fun j y hy=>?_) fun j x y hx hy=>(g2 j x y hx hy).1
 obtain ⟨x,hx⟩:∃x,xs[j]?=some x:=⟨_,List.getElem?_eq_getElem (by rw [← g1];exact (List.getElem?_eq_some_iff.1 hy).1)⟩
 exact (g2 j x y hx hy).2
theorem Rm.refIs {π:List (Nat × Nat)} {σ σ':Sto} {x:AV} {id id' ep ep':Nat} {k:RK} {bd bd':Body} (e:x = .ref id ep k) (hm:lkP π id=some id') (h:σ id=⟨ep,some bd⟩) (h':σ' id'=⟨ep',some bd'⟩):Rm π σ σ' x (.ref id' ep' k):=e ▸ .ref (lkP_ok hm) h h'
theorem m_line28 (q:Nat→Option (Nat × Nat)):MDoes Tryz.prog 54 [] (gl q [] []) lnV (gl q [] lnB):=by
 refine MDoes.of_body Tryz.func54 rfl (by kernel_rfl) rfl rfl ?_
 (repeat first|apply wA|apply wB|apply wC|apply wE|(apply zM;·kernel_rfl))
 refine wF ?_;refine wH rfl ?_;(repeat first|apply wA|apply wB|apply wC|apply wE|(apply zM;·kernel_rfl))
 refine wF ?_;refine wH rfl ?_;(repeat first|apply wA|apply wB|apply wC|apply wE|(apply zM;·kernel_rfl))
 refine wF ?_;refine wH rfl ?_;(repeat first|apply wA|apply wB|apply wC|apply wE|(apply zM;·kernel_rfl))
 refine wF ?_;refine wH rfl ?_;(repeat first|apply wA|apply wB|apply wC|apply wE|(apply zM;·kernel_rfl))
 refine wF ?_;refine wH rfl ?_;(repeat first|apply wA|apply wB|apply wC|apply wE|(apply zM;·kernel_rfl))
 refine AW.text ?_
 refine RG.runG ty_ok 0 5 rfl ?_
 refine RG.opS rfl (op_buildRef (id:=301) rfl (tab_ok ty_ok rfl) rfl (tab_ok ty_ok rfl) rfl (by decide) rfl rfl rfl rfl rfl) rfl ?_
 refine RG.runG ty_ok 0 5 rfl ?_
 refine RG.opS rfl (op_buildRef (id:=302) rfl (tab_ok ty_ok rfl) rfl (tab_ok ty_ok rfl) rfl (by decide) rfl rfl rfl rfl rfl) rfl ?_
 refine RG.opS rfl (op_buildRef (id:=300) rfl (tab_ok ty_ok rfl) rfl (tab_ok ty_ok rfl) rfl (by decide) rfl rfl rfl rfl rfl) rfl ?_
 refine wH rfl ?_;(repeat first|apply wA|apply wB|apply wC|apply wE|(apply zM;·kernel_rfl)|refine zI rfl ?_|refine zJ rfl ?_)
 refine AW.ret (retMA ty_ok rfl rfl (Rm.aggL rfl ⟨⟨Rm.rowIs rfl rfl rfl rfl,rfl⟩,⟨Rm.is rfl rfl,rfl⟩,⟨.nil,rfl⟩,⟨.nil,rfl⟩,⟨Rm.refIs rfl rfl rfl rfl,rfl⟩,trivial⟩) ⟨.boxL rfl ⟨Rn.refIs rfl rfl rfl,Rn.refIs rfl rfl rfl,trivial⟩ rfl,.boxL rfl ⟨Rn.rowIs rfl rfl rfl,trivial⟩ rfl,.boxL rfl ⟨Rn.rowIs rfl rfl rfl,trivial⟩ rfl,.row rfl rfl,.row rfl rfl,.row rfl rfl,trivial⟩)
end Go.Proofs.YtahjjfhjjbgjaaaGreat.Sm
end
section
namespace Go.Proofs.YtahjjfhjjbgjaaaGreat.Sm
open Go.RowKit
theorem looks_of {c:Cf} (h:∀tb∈c.tables,∀l∈tb,Falls l∧l.length≤12):LooksOk c:=by
 intro n t
 have h0:LookOk []:=look_falls (fun k x y h=>by simp at h) (Nat.zero_le _)
 rw [tabOf,List.getD_eq_getElem?_getD,List.getD_eq_getElem?_getD]
 cases h1:c.tables[n]? with
 | none=>exact h0
 | some tb =>
  show LookOk (tb[t]?.getD [])
  cases h2:tb[t]? with
  | none=>exact h0
  | some l =>
   obtain ⟨g1,g2⟩:=h tb (List.mem_of_getElem? h1) l (List.mem_of_getElem? h2)
   exact look_falls g1 g2
theorem falls0:Falls lnR0:=by
 intro k x y hx hy
 match k with
 | 0 =>
  obtain rfl:=Option.some.inj hx
  obtain rfl:=Option.some.inj hy
  decide
 | k+1=>simp [lnR0] at hy
theorem falls1:Falls lnR1:=by
 intro k x y hx hy
 match k with
 | 0 =>
  obtain rfl:=Option.some.inj hx
  obtain rfl:=Option.some.inj hy
  decide
 | k+1=>simp [lnR1] at hy
theorem lineC_looks:LooksOk lineC:=looks_of (by
 intro tb htb l hl
 simp only [lineC,List.mem_cons,List.not_mem_nil,or_false] at htb
 rcases htb with rfl | rfl
 ·simp only [List.mem_cons,List.not_mem_nil,or_false] at hl
  subst hl
  exact ⟨falls0,by decide⟩
 ·simp only [List.mem_cons,List.not_mem_nil,or_false] at hl
  subst hl
  exact ⟨falls1,by decide⟩)
end Go.Proofs.YtahjjfhjjbgjaaaGreat.Sm
end
section
namespace Go.Proofs.YtahjjfhjjbgjaaaGreat.Sm
open Go.RowKit
theorem small_of {c:Cf} (h:c.tables.all (fun t=>Nat.ble t.flatten.length 1000)=true):c.Small:=fun t ht=>by
 have:=Nat.le_of_ble_eq_true (List.all_eq_true.1 h t ht)
 omega
end Go.Proofs.YtahjjfhjjbgjaaaGreat.Sm
end
section
namespace Go.Proofs.YtahjjfhjjbgjaaaGreat.Sm
open Go.RowKit
theorem flat_mem {α:Type} {l:List α}:∀{ls:List (List α)},l∈ls→l.length≤ls.flatten.length
 | x::ls,h=>by
  rw [List.flatten_cons,List.length_append]
  rcases List.mem_cons.1 h with rfl | h
  ·omega
  ·have:=flat_mem h
   omega
theorem Cf.small {c:Cf} (h0:c.sound=0) (hL:c.Lens):c.Small:=by
 have hc:=Cf.ok h0
 intro t ht
 obtain ⟨n,hn⟩:=List.mem_iff_getElem?.1 ht
 have h3:=(tabSound_ok (hc.tabs n t hn)).2.1
 have h4:=flat_bound t (hL t ht)
 have h5:reachBytes*t.length≤reachBytes*3:=Nat.mul_le_mul_left _ h3
 have h6:reachBytes*3≤1000000000000000:=by decide
 omega
theorem looks_any {c:Cf} (h0:c.sound=0) (hL:c.Lens):LooksOk c:=by
 have hc:=Cf.ok h0
 have hs:=Cf.small h0 hL
 intro n t
 have hnil:LookOk []:=look_any [] (by decide)
 rw [tabOf,List.getD_eq_getElem?_getD,List.getD_eq_getElem?_getD]
 cases h1:c.tables[n]? with
 | none=>exact hnil
 | some tb =>
  show LookOk (tb[t]?.getD [])
  cases h2:tb[t]? with
  | none=>exact hnil
  | some l =>
   have h3:=tabSound_ok (hc.tabs n tb h1)
   have h4:=hs tb (List.mem_of_getElem? h1)
   have h5:=countT_len tb 0 (by omega)
   have h6:=flat_mem (List.mem_of_getElem? h2)
   have h7:((0:Nat):Int)=0:=rfl
   rw [h7] at h5
   exact look_any l (by omega)
def sortG (l:List Cb):List Cb:=(stable ltC l.toArray).toList
theorem sortG_perm (l:List Cb):(sortG l).Perm l:=stable_perm l
end Go.Proofs.YtahjjfhjjbgjaaaGreat.Sm
end
section
namespace Go.Proofs.YtahjjfhjjbgjaaaGreat.Sm
open Go.RowKit
def Hop.zero:Hop:=⟨0,0,0,Hd.zero⟩
end Go.Proofs.YtahjjfhjjbgjaaaGreat.Sm
end
section
namespace Go.Proofs.YtahjjfhjjbgjaaaGreat.Sm
open Go.RowKit
end Go.Proofs.YtahjjfhjjbgjaaaGreat.Sm
end
section
namespace Go.Proofs.YtahjjfhjjbgjaaaGreat.Sm
open Go.RowKit
end Go.Proofs.YtahjjfhjjbgjaaaGreat.Sm
end
section
namespace Go.Proofs.YtahjjfhjjbgjaaaGreat.Sm
open Go.RowKit
end Go.Proofs.YtahjjfhjjbgjaaaGreat.Sm
end
section
namespace Go.Proofs.YtahjjfhjjbgjaaaGreat.Sm
open Go.RowKit
end Go.Proofs.YtahjjfhjjbgjaaaGreat.Sm
end
section
namespace Go.Proofs.YtahjjfhjjbgjaaaGreat.Sm
open Go.RowKit
end Go.Proofs.YtahjjfhjjbgjaaaGreat.Sm
end
section
namespace Go.Proofs.YtahjjfhjjbgjaaaGreat.Sm
open Go.RowKit
theorem eq_len {α:Type} [DecidableEq α] {a b:List α} (h:¬a.length=b.length):decide (a=b)=false:=decide_eq_false fun e=>h (congrArg List.length e)
theorem eq_step {α:Type} [DecidableEq α] {x y:α} {a b:List α}:decide (x::a=y::b)=(decide (x=y) && decide (a=b)):=by
 rw [Bool.eq_iff_iff];simp
theorem d_Equal_Pr (a b:List (Int × Int)) (q:Bool) (hq:decide (a=b)=q):PDoes Tryz.prog 145 [.sl (a.map cPr),.sl (b.map cPr)] (.b q):=by
  refine PDoes.of_bodyN Tryz.func145 rfl (by kernel_rfl) rfl rfl ?_
  have la:(a.map cPr).length=a.length:=List.length_map ..
  have lb:(b.map cPr).length=b.length:=List.length_map ..
  (repeat first|apply wA|apply wB|apply wC|apply wE|(apply zM;·kernel_rfl)|refine zI rfl ?_|refine zJ rfl ?_)
  refine AW.cond rfl (fun h=>?_) (fun h=>?_)
  · have h:¬a.length=b.length:=by simp at h;omega
    rw [eq_len h] at hq
    (repeat first|apply wA|apply wB|apply wC|apply wE|(apply zM;·kernel_rfl)|refine zI rfl ?_|refine zJ rfl ?_)
    refine AW.ret (retQA ty_ok rfl rfl rfl ?_)
    exact congrArg AV.b hq
  have h:a.length=b.length:=by simp at h;omega
  (repeat first|apply wA|apply wB|apply wC|apply wE|(apply zM;·kernel_rfl)|refine zI rfl ?_|refine zJ rfl ?_)
  refine AW.lens 0 rfl fun hm=>?_
  rw [List.length_map] at hm
  refine AW.loopL (ι:=Nat) (fun k=>[(0,.sl (a.map cPr)),(1,.sl (b.map cPr)),(12,.i .i64 (a.map cPr).length),(13,.i .i64 (k:Nat))]) (fun _=>[]) (fun k=>k≤a.length∧decide (a.drop k=b.drop k)=q) (fun k=>a.length - k) 0 ⟨Nat.zero_le _,hq⟩ (by repeat(first|exact trivial|refine ⟨rI rfl rfl,?_⟩|refine ⟨rO rfl rfl rfl,?_⟩|refine ⟨rR rfl rfl rfl,?_⟩|refine ⟨bR rfl rfl,?_⟩|refine ⟨bS rfl rfl rfl,?_⟩)) trivial fun k hk=>?_
  clear hq
  obtain ⟨hk,hf⟩:=hk
  (repeat first|apply wA|apply wB|apply wC|apply wE|(apply zM;·kernel_rfl)|refine zI rfl ?_|refine zJ rfl ?_)
  refine AW.cond rfl (fun h1=>?_) (fun h1=>?_)
  rotate_left
  · have h':¬k<a.length:=by simpa using h1
    obtain rfl:k=a.length:=by omega
    rw [List.drop_length,h,List.drop_length] at hf
    (repeat first|apply wA|apply wB|apply wC|apply wE|(apply zM;·kernel_rfl)|refine zI rfl ?_|refine zJ rfl ?_)
    refine AW.exit ?_;refine Eq.mpr (if_pos rfl) ?_;(repeat first|apply wA|apply wB|apply wC|apply wE|(apply zM;·kernel_rfl)|refine zI rfl ?_|refine zJ rfl ?_)
    refine AW.ret (retQA ty_ok rfl rfl rfl ?_)
    exact congrArg AV.b hf
  have h':k<a.length:=by simpa using h1
  have h'':k<b.length:=by omega
  rw [List.drop_eq_getElem_cons h',List.drop_eq_getElem_cons h'',eq_step] at hf
  have hax:(a.map cPr)[k]?=some (cPr a[k]):=by rw [List.getElem?_map,List.getElem?_eq_getElem h'];rfl
  have hbx:(b.map cPr)[k]?=some (cPr b[k]):=by rw [List.getElem?_map,List.getElem?_eq_getElem h''];rfl
  generalize a[k]=x at hf hax
  generalize b[k]=y at hf hbx
  (repeat first|apply wA|apply wB|apply wC|apply wE|(apply zM;·kernel_rfl)|refine zI rfl ?_|refine zJ rfl ?_)
  refine RG.opS rfl (op_index rfl (tab_ok ty_ok rfl) rfl (tab_ok ty_ok rfl) rfl rfl hax rfl) rfl ?_
  refine wH rfl ?_
  refine RG.opS rfl (op_index rfl (tab_ok ty_ok rfl) rfl (tab_ok ty_ok rfl) rfl rfl hbx rfl) rfl ?_
  refine wH rfl ?_
  by_cases e:x=y
  · rw [decide_eq_true e,Bool.true_and] at hf
    refine RG.opS rfl (op_neG rfl ty_ok (by kernel_rfl) (by kernel_rfl) rfl rfl (eq_Pr x y) (congrArg Bool.not (decide_eq_true e))) rfl ?_
    refine wH rfl ?_;(repeat first|apply wA|apply wB|apply wC|apply wE|(apply zM;·kernel_rfl)|refine zI rfl ?_|refine zJ rfl ?_);refine AW.condF rfl ?_;(repeat first|apply wA|apply wB|apply wC|apply wE|(apply zM;·kernel_rfl)|refine zI rfl ?_|refine zJ rfl ?_)
    exact ⟨k+1,⟨⟨h',hf⟩,by omega⟩,⟨rI rfl rfl,rI rfl rfl,rI rfl rfl,rI (i64_next h' hm) rfl,trivial⟩,trivial⟩
  · rw [decide_eq_false e] at hf
    refine RG.opS rfl (op_neG rfl ty_ok (by kernel_rfl) (by kernel_rfl) rfl rfl (eq_Pr x y) (congrArg Bool.not (decide_eq_false e))) rfl ?_
    refine wH rfl ?_;(repeat first|apply wA|apply wB|apply wC|apply wE|(apply zM;·kernel_rfl)|refine zI rfl ?_|refine zJ rfl ?_);refine AW.condT rfl ?_;(repeat first|apply wA|apply wB|apply wC|apply wE|(apply zM;·kernel_rfl)|refine zI rfl ?_|refine zJ rfl ?_)
    refine AW.ret (retQA ty_ok rfl rfl rfl ?_)
    exact congrArg AV.b hf
theorem d_Equal_Wy (a b:List (Wy)) (q:Bool) (hq:decide (a=b)=q):PDoes Tryz.prog 146 [.sl (a.map cWy),.sl (b.map cWy)] (.b q):=by
  refine PDoes.of_bodyN Tryz.func146 rfl (by kernel_rfl) rfl rfl ?_
  have la:(a.map cWy).length=a.length:=List.length_map ..
  have lb:(b.map cWy).length=b.length:=List.length_map ..
  (repeat first|apply wA|apply wB|apply wC|apply wE|(apply zM;·kernel_rfl)|refine zI rfl ?_|refine zJ rfl ?_)
  refine AW.cond rfl (fun h=>?_) (fun h=>?_)
  · have h:¬a.length=b.length:=by simp at h;omega
    rw [eq_len h] at hq
    (repeat first|apply wA|apply wB|apply wC|apply wE|(apply zM;·kernel_rfl)|refine zI rfl ?_|refine zJ rfl ?_)
    refine AW.ret (retQA ty_ok rfl rfl rfl ?_)
    exact congrArg AV.b hq
  have h:a.length=b.length:=by simp at h;omega
  (repeat first|apply wA|apply wB|apply wC|apply wE|(apply zM;·kernel_rfl)|refine zI rfl ?_|refine zJ rfl ?_)
  refine AW.lens 0 rfl fun hm=>?_
  rw [List.length_map] at hm
  refine AW.loopL (ι:=Nat) (fun k=>[(0,.sl (a.map cWy)),(1,.sl (b.map cWy)),(12,.i .i64 (a.map cWy).length),(13,.i .i64 (k:Nat))]) (fun _=>[]) (fun k=>k≤a.length∧decide (a.drop k=b.drop k)=q) (fun k=>a.length - k) 0 ⟨Nat.zero_le _,hq⟩ (by repeat(first|exact trivial|refine ⟨rI rfl rfl,?_⟩|refine ⟨rO rfl rfl rfl,?_⟩|refine ⟨rR rfl rfl rfl,?_⟩|refine ⟨bR rfl rfl,?_⟩|refine ⟨bS rfl rfl rfl,?_⟩)) trivial fun k hk=>?_
  clear hq
  obtain ⟨hk,hf⟩:=hk
  (repeat first|apply wA|apply wB|apply wC|apply wE|(apply zM;·kernel_rfl)|refine zI rfl ?_|refine zJ rfl ?_)
  refine AW.cond rfl (fun h1=>?_) (fun h1=>?_)
  rotate_left
  · have h':¬k<a.length:=by simpa using h1
    obtain rfl:k=a.length:=by omega
    rw [List.drop_length,h,List.drop_length] at hf
    (repeat first|apply wA|apply wB|apply wC|apply wE|(apply zM;·kernel_rfl)|refine zI rfl ?_|refine zJ rfl ?_)
    refine AW.exit ?_;refine Eq.mpr (if_pos rfl) ?_;(repeat first|apply wA|apply wB|apply wC|apply wE|(apply zM;·kernel_rfl)|refine zI rfl ?_|refine zJ rfl ?_)
    refine AW.ret (retQA ty_ok rfl rfl rfl ?_)
    exact congrArg AV.b hf
  have h':k<a.length:=by simpa using h1
  have h'':k<b.length:=by omega
  rw [List.drop_eq_getElem_cons h',List.drop_eq_getElem_cons h'',eq_step] at hf
  have hax:(a.map cWy)[k]?=some (cWy a[k]):=by rw [List.getElem?_map,List.getElem?_eq_getElem h'];rfl
  have hbx:(b.map cWy)[k]?=some (cWy b[k]):=by rw [List.getElem?_map,List.getElem?_eq_getElem h''];rfl
  generalize a[k]=x at hf hax
  generalize b[k]=y at hf hbx
  (repeat first|apply wA|apply wB|apply wC|apply wE|(apply zM;·kernel_rfl)|refine zI rfl ?_|refine zJ rfl ?_)
  refine RG.opS rfl (op_index rfl (tab_ok ty_ok rfl) rfl (tab_ok ty_ok rfl) rfl rfl hax rfl) rfl ?_
  refine wH rfl ?_
  refine RG.opS rfl (op_index rfl (tab_ok ty_ok rfl) rfl (tab_ok ty_ok rfl) rfl rfl hbx rfl) rfl ?_
  refine wH rfl ?_
  by_cases e:x=y
  · rw [decide_eq_true e,Bool.true_and] at hf
    refine RG.opS rfl (op_neG rfl ty_ok (by kernel_rfl) (by kernel_rfl) rfl rfl (eq_Wy x y) (congrArg Bool.not (decide_eq_true e))) rfl ?_
    refine wH rfl ?_;(repeat first|apply wA|apply wB|apply wC|apply wE|(apply zM;·kernel_rfl)|refine zI rfl ?_|refine zJ rfl ?_);refine AW.condF rfl ?_;(repeat first|apply wA|apply wB|apply wC|apply wE|(apply zM;·kernel_rfl)|refine zI rfl ?_|refine zJ rfl ?_)
    exact ⟨k+1,⟨⟨h',hf⟩,by omega⟩,⟨rI rfl rfl,rI rfl rfl,rI rfl rfl,rI (i64_next h' hm) rfl,trivial⟩,trivial⟩
  · rw [decide_eq_false e] at hf
    refine RG.opS rfl (op_neG rfl ty_ok (by kernel_rfl) (by kernel_rfl) rfl rfl (eq_Wy x y) (congrArg Bool.not (decide_eq_false e))) rfl ?_
    refine wH rfl ?_;(repeat first|apply wA|apply wB|apply wC|apply wE|(apply zM;·kernel_rfl)|refine zI rfl ?_|refine zJ rfl ?_);refine AW.condT rfl ?_;(repeat first|apply wA|apply wB|apply wC|apply wE|(apply zM;·kernel_rfl)|refine zI rfl ?_|refine zJ rfl ?_)
    refine AW.ret (retQA ty_ok rfl rfl rfl ?_)
    exact congrArg AV.b hf
theorem d_Equal_Pt (a b:List (Pt)) (q:Bool) (hq:decide (a=b)=q):PDoes Tryz.prog 174 [.sl (a.map cPt),.sl (b.map cPt)] (.b q):=by
  refine PDoes.of_bodyN Tryz.func174 rfl (by kernel_rfl) rfl rfl ?_
  have la:(a.map cPt).length=a.length:=List.length_map ..
  have lb:(b.map cPt).length=b.length:=List.length_map ..
  (repeat first|apply wA|apply wB|apply wC|apply wE|(apply zM;·kernel_rfl)|refine zI rfl ?_|refine zJ rfl ?_)
  refine AW.cond rfl (fun h=>?_) (fun h=>?_)
  · have h:¬a.length=b.length:=by simp at h;omega
    rw [eq_len h] at hq
    (repeat first|apply wA|apply wB|apply wC|apply wE|(apply zM;·kernel_rfl)|refine zI rfl ?_|refine zJ rfl ?_)
    refine AW.ret (retQA ty_ok rfl rfl rfl ?_)
    exact congrArg AV.b hq
  have h:a.length=b.length:=by simp at h;omega
  (repeat first|apply wA|apply wB|apply wC|apply wE|(apply zM;·kernel_rfl)|refine zI rfl ?_|refine zJ rfl ?_)
  refine AW.lens 0 rfl fun hm=>?_
  rw [List.length_map] at hm
  refine AW.loopL (ι:=Nat) (fun k=>[(0,.sl (a.map cPt)),(1,.sl (b.map cPt)),(12,.i .i64 (a.map cPt).length),(13,.i .i64 (k:Nat))]) (fun _=>[]) (fun k=>k≤a.length∧decide (a.drop k=b.drop k)=q) (fun k=>a.length - k) 0 ⟨Nat.zero_le _,hq⟩ (by repeat(first|exact trivial|refine ⟨rI rfl rfl,?_⟩|refine ⟨rO rfl rfl rfl,?_⟩|refine ⟨rR rfl rfl rfl,?_⟩|refine ⟨bR rfl rfl,?_⟩|refine ⟨bS rfl rfl rfl,?_⟩)) trivial fun k hk=>?_
  clear hq
  obtain ⟨hk,hf⟩:=hk
  (repeat first|apply wA|apply wB|apply wC|apply wE|(apply zM;·kernel_rfl)|refine zI rfl ?_|refine zJ rfl ?_)
  refine AW.cond rfl (fun h1=>?_) (fun h1=>?_)
  rotate_left
  · have h':¬k<a.length:=by simpa using h1
    obtain rfl:k=a.length:=by omega
    rw [List.drop_length,h,List.drop_length] at hf
    (repeat first|apply wA|apply wB|apply wC|apply wE|(apply zM;·kernel_rfl)|refine zI rfl ?_|refine zJ rfl ?_)
    refine AW.exit ?_;refine Eq.mpr (if_pos rfl) ?_;(repeat first|apply wA|apply wB|apply wC|apply wE|(apply zM;·kernel_rfl)|refine zI rfl ?_|refine zJ rfl ?_)
    refine AW.ret (retQA ty_ok rfl rfl rfl ?_)
    exact congrArg AV.b hf
  have h':k<a.length:=by simpa using h1
  have h'':k<b.length:=by omega
  rw [List.drop_eq_getElem_cons h',List.drop_eq_getElem_cons h'',eq_step] at hf
  have hax:(a.map cPt)[k]?=some (cPt a[k]):=by rw [List.getElem?_map,List.getElem?_eq_getElem h'];rfl
  have hbx:(b.map cPt)[k]?=some (cPt b[k]):=by rw [List.getElem?_map,List.getElem?_eq_getElem h''];rfl
  generalize a[k]=x at hf hax
  generalize b[k]=y at hf hbx
  (repeat first|apply wA|apply wB|apply wC|apply wE|(apply zM;·kernel_rfl)|refine zI rfl ?_|refine zJ rfl ?_)
  refine RG.opS rfl (op_index rfl (tab_ok ty_ok rfl) rfl (tab_ok ty_ok rfl) rfl rfl hax rfl) rfl ?_
  refine wH rfl ?_
  refine RG.opS rfl (op_index rfl (tab_ok ty_ok rfl) rfl (tab_ok ty_ok rfl) rfl rfl hbx rfl) rfl ?_
  refine wH rfl ?_
  by_cases e:x=y
  · rw [decide_eq_true e,Bool.true_and] at hf
    refine RG.opS rfl (op_neG rfl ty_ok (by kernel_rfl) (by kernel_rfl) rfl rfl (eq_Pt x y) (congrArg Bool.not (decide_eq_true e))) rfl ?_
    refine wH rfl ?_;(repeat first|apply wA|apply wB|apply wC|apply wE|(apply zM;·kernel_rfl)|refine zI rfl ?_|refine zJ rfl ?_);refine AW.condF rfl ?_;(repeat first|apply wA|apply wB|apply wC|apply wE|(apply zM;·kernel_rfl)|refine zI rfl ?_|refine zJ rfl ?_)
    exact ⟨k+1,⟨⟨h',hf⟩,by omega⟩,⟨rI rfl rfl,rI rfl rfl,rI rfl rfl,rI (i64_next h' hm) rfl,trivial⟩,trivial⟩
  · rw [decide_eq_false e] at hf
    refine RG.opS rfl (op_neG rfl ty_ok (by kernel_rfl) (by kernel_rfl) rfl rfl (eq_Pt x y) (congrArg Bool.not (decide_eq_false e))) rfl ?_
    refine wH rfl ?_;(repeat first|apply wA|apply wB|apply wC|apply wE|(apply zM;·kernel_rfl)|refine zI rfl ?_|refine zJ rfl ?_);refine AW.condT rfl ?_;(repeat first|apply wA|apply wB|apply wC|apply wE|(apply zM;·kernel_rfl)|refine zI rfl ?_|refine zJ rfl ?_)
    refine AW.ret (retQA ty_ok rfl rfl rfl ?_)
    exact congrArg AV.b hf
theorem d_Equal_Rl (a b:List (Rl)) (q:Bool) (hq:decide (a=b)=q):PDoes Tryz.prog 176 [.sl (a.map cRl),.sl (b.map cRl)] (.b q):=by
  refine PDoes.of_bodyN Tryz.func176 rfl (by kernel_rfl) rfl rfl ?_
  have la:(a.map cRl).length=a.length:=List.length_map ..
  have lb:(b.map cRl).length=b.length:=List.length_map ..
  (repeat first|apply wA|apply wB|apply wC|apply wE|(apply zM;·kernel_rfl)|refine zI rfl ?_|refine zJ rfl ?_)
  refine AW.cond rfl (fun h=>?_) (fun h=>?_)
  · have h:¬a.length=b.length:=by simp at h;omega
    rw [eq_len h] at hq
    (repeat first|apply wA|apply wB|apply wC|apply wE|(apply zM;·kernel_rfl)|refine zI rfl ?_|refine zJ rfl ?_)
    refine AW.ret (retQA ty_ok rfl rfl rfl ?_)
    exact congrArg AV.b hq
  have h:a.length=b.length:=by simp at h;omega
  (repeat first|apply wA|apply wB|apply wC|apply wE|(apply zM;·kernel_rfl)|refine zI rfl ?_|refine zJ rfl ?_)
  refine AW.lens 0 rfl fun hm=>?_
  rw [List.length_map] at hm
  refine AW.loopL (ι:=Nat) (fun k=>[(0,.sl (a.map cRl)),(1,.sl (b.map cRl)),(12,.i .i64 (a.map cRl).length),(13,.i .i64 (k:Nat))]) (fun _=>[]) (fun k=>k≤a.length∧decide (a.drop k=b.drop k)=q) (fun k=>a.length - k) 0 ⟨Nat.zero_le _,hq⟩ (by repeat(first|exact trivial|refine ⟨rI rfl rfl,?_⟩|refine ⟨rO rfl rfl rfl,?_⟩|refine ⟨rR rfl rfl rfl,?_⟩|refine ⟨bR rfl rfl,?_⟩|refine ⟨bS rfl rfl rfl,?_⟩)) trivial fun k hk=>?_
  clear hq
  obtain ⟨hk,hf⟩:=hk
  (repeat first|apply wA|apply wB|apply wC|apply wE|(apply zM;·kernel_rfl)|refine zI rfl ?_|refine zJ rfl ?_)
  refine AW.cond rfl (fun h1=>?_) (fun h1=>?_)
  rotate_left
  · have h':¬k<a.length:=by simpa using h1
    obtain rfl:k=a.length:=by omega
    rw [List.drop_length,h,List.drop_length] at hf
    (repeat first|apply wA|apply wB|apply wC|apply wE|(apply zM;·kernel_rfl)|refine zI rfl ?_|refine zJ rfl ?_)
    refine AW.exit ?_;refine Eq.mpr (if_pos rfl) ?_;(repeat first|apply wA|apply wB|apply wC|apply wE|(apply zM;·kernel_rfl)|refine zI rfl ?_|refine zJ rfl ?_)
    refine AW.ret (retQA ty_ok rfl rfl rfl ?_)
    exact congrArg AV.b hf
  have h':k<a.length:=by simpa using h1
  have h'':k<b.length:=by omega
  rw [List.drop_eq_getElem_cons h',List.drop_eq_getElem_cons h'',eq_step] at hf
  have hax:(a.map cRl)[k]?=some (cRl a[k]):=by rw [List.getElem?_map,List.getElem?_eq_getElem h'];rfl
  have hbx:(b.map cRl)[k]?=some (cRl b[k]):=by rw [List.getElem?_map,List.getElem?_eq_getElem h''];rfl
  generalize a[k]=x at hf hax
  generalize b[k]=y at hf hbx
  (repeat first|apply wA|apply wB|apply wC|apply wE|(apply zM;·kernel_rfl)|refine zI rfl ?_|refine zJ rfl ?_)
  refine RG.opS rfl (op_index rfl (tab_ok ty_ok rfl) rfl (tab_ok ty_ok rfl) rfl rfl hax rfl) rfl ?_
  refine wH rfl ?_
  refine RG.opS rfl (op_index rfl (tab_ok ty_ok rfl) rfl (tab_ok ty_ok rfl) rfl rfl hbx rfl) rfl ?_
  refine wH rfl ?_
  by_cases e:x=y
  · rw [decide_eq_true e,Bool.true_and] at hf
    refine RG.opS rfl (op_neG rfl ty_ok (by kernel_rfl) (by kernel_rfl) rfl rfl (eq_Rl x y) (congrArg Bool.not (decide_eq_true e))) rfl ?_
    refine wH rfl ?_;(repeat first|apply wA|apply wB|apply wC|apply wE|(apply zM;·kernel_rfl)|refine zI rfl ?_|refine zJ rfl ?_);refine AW.condF rfl ?_;(repeat first|apply wA|apply wB|apply wC|apply wE|(apply zM;·kernel_rfl)|refine zI rfl ?_|refine zJ rfl ?_)
    exact ⟨k+1,⟨⟨h',hf⟩,by omega⟩,⟨rI rfl rfl,rI rfl rfl,rI rfl rfl,rI (i64_next h' hm) rfl,trivial⟩,trivial⟩
  · rw [decide_eq_false e] at hf
    refine RG.opS rfl (op_neG rfl ty_ok (by kernel_rfl) (by kernel_rfl) rfl rfl (eq_Rl x y) (congrArg Bool.not (decide_eq_false e))) rfl ?_
    refine wH rfl ?_;(repeat first|apply wA|apply wB|apply wC|apply wE|(apply zM;·kernel_rfl)|refine zI rfl ?_|refine zJ rfl ?_);refine AW.condT rfl ?_;(repeat first|apply wA|apply wB|apply wC|apply wE|(apply zM;·kernel_rfl)|refine zI rfl ?_|refine zJ rfl ?_)
    refine AW.ret (retQA ty_ok rfl rfl rfl ?_)
    exact congrArg AV.b hf
theorem d_EqualFunc_Pts (F:Nat) (H:∀x y:List Pt,PDoes Tryz.prog F [.sl (x.map cPt),.sl (y.map cPt)] (.b (decide (x=y)))) (a b:List (List Pt)) (q:Bool) (hq:decide (a=b)=q):PDoes Tryz.prog 173 [.sl (a.map cPts),.sl (b.map cPts),.fn F [] []] (.b q):=by
  refine PDoes.of_bodyN Tryz.func173 rfl (by kernel_rfl) rfl rfl ?_
  have la:(a.map cPts).length=a.length:=List.length_map ..
  have lb:(b.map cPts).length=b.length:=List.length_map ..
  (repeat first|apply wA|apply wB|apply wC|apply wE|(apply zM;·kernel_rfl)|refine zI rfl ?_|refine zJ rfl ?_)
  refine AW.cond rfl (fun h=>?_) (fun h=>?_)
  · have h:¬a.length=b.length:=by simp at h;omega
    rw [eq_len h] at hq
    (repeat first|apply wA|apply wB|apply wC|apply wE|(apply zM;·kernel_rfl)|refine zI rfl ?_|refine zJ rfl ?_)
    refine AW.ret (retQA ty_ok rfl rfl rfl ?_)
    exact congrArg AV.b hq
  have h:a.length=b.length:=by simp at h;omega
  (repeat first|apply wA|apply wB|apply wC|apply wE|(apply zM;·kernel_rfl)|refine zI rfl ?_|refine zJ rfl ?_)
  refine AW.lens 0 rfl fun hm=>?_
  rw [List.length_map] at hm
  refine AW.loopL (ι:=Nat) (fun k=>[(1,.sl (b.map cPts)),(2,.fn F [] []),(15,.sl (a.map cPts)),(16,.i .i64 (a.map cPts).length),(17,.i .i64 (k:Nat))]) (fun _=>[]) (fun k=>k≤a.length∧decide (a.drop k=b.drop k)=q) (fun k=>a.length - k) 0 ⟨Nat.zero_le _,hq⟩ ⟨rI rfl rfl,Rn.fnF rfl rfl,rI rfl rfl,rI rfl rfl,rI rfl rfl,trivial⟩ trivial fun k hk=>?_
  clear hq
  obtain ⟨hk,hf⟩:=hk
  (repeat first|apply wA|apply wB|apply wC|apply wE|(apply zM;·kernel_rfl)|refine zI rfl ?_|refine zJ rfl ?_)
  refine AW.cond rfl (fun h1=>?_) (fun h1=>?_)
  rotate_left
  · have h':¬k<a.length:=by simpa using h1
    obtain rfl:k=a.length:=by omega
    rw [List.drop_length,h,List.drop_length] at hf
    (repeat first|apply wA|apply wB|apply wC|apply wE|(apply zM;·kernel_rfl)|refine zI rfl ?_|refine zJ rfl ?_)
    refine AW.exit ?_;refine Eq.mpr (if_pos rfl) ?_;(repeat first|apply wA|apply wB|apply wC|apply wE|(apply zM;·kernel_rfl)|refine zI rfl ?_|refine zJ rfl ?_)
    refine AW.ret (retQA ty_ok rfl rfl rfl ?_)
    exact congrArg AV.b hf
  have h':k<a.length:=by simpa using h1
  have h'':k<b.length:=by omega
  rw [List.drop_eq_getElem_cons h',List.drop_eq_getElem_cons h'',eq_step] at hf
  have hax:(a.map cPts)[k]?=some (cPts a[k]):=by rw [List.getElem?_map,List.getElem?_eq_getElem h'];rfl
  have hbx:(b.map cPts)[k]?=some (cPts b[k]):=by rw [List.getElem?_map,List.getElem?_eq_getElem h''];rfl
  generalize a[k]=x at hf hax
  generalize b[k]=y at hf hbx
  (repeat first|apply wA|apply wB|apply wC|apply wE|(apply zM;·kernel_rfl)|refine zI rfl ?_|refine zJ rfl ?_)
  refine RG.opS rfl (op_index rfl (tab_ok ty_ok rfl) rfl (tab_ok ty_ok rfl) rfl rfl hax rfl) rfl ?_
  refine wH rfl ?_;(repeat first|apply wA|apply wB|apply wC|apply wE|(apply zM;·kernel_rfl)|refine zI rfl ?_|refine zJ rfl ?_)
  refine RG.opS rfl (op_index rfl (tab_ok ty_ok rfl) rfl (tab_ok ty_ok rfl) rfl rfl hbx rfl) rfl ?_
  refine wH rfl ?_;(repeat first|apply wA|apply wB|apply wC|apply wE|(apply zM;·kernel_rfl)|refine zI rfl ?_|refine zJ rfl ?_)
  have hx:=H x y
  cases e:decide (x=y)
  · rw [e] at hf hx
    refine RG.callS rfl rfl rfl rfl rfl hx rfl rfl ?_;refine wH rfl ?_;(repeat first|apply wA|apply wB|apply wC|apply wE|(apply zM;·kernel_rfl)|refine zI rfl ?_|refine zJ rfl ?_)
    refine AW.condT rfl ?_;(repeat first|apply wA|apply wB|apply wC|apply wE|(apply zM;·kernel_rfl)|refine zI rfl ?_|refine zJ rfl ?_)
    refine AW.ret (retQA ty_ok rfl rfl rfl ?_)
    exact congrArg AV.b hf
  · rw [e,Bool.true_and] at hf
    rw [e] at hx
    refine RG.callS rfl rfl rfl rfl rfl hx rfl rfl ?_;refine wH rfl ?_;(repeat first|apply wA|apply wB|apply wC|apply wE|(apply zM;·kernel_rfl)|refine zI rfl ?_|refine zJ rfl ?_)
    refine AW.condF rfl ?_;(repeat first|apply wA|apply wB|apply wC|apply wE|(apply zM;·kernel_rfl)|refine zI rfl ?_|refine zJ rfl ?_)
    exact ⟨k+1,⟨⟨h',hf⟩,by omega⟩,⟨rI rfl rfl,Rn.fnF rfl rfl,rI rfl rfl,rI rfl rfl,rI (i64_next h' hm) rfl,trivial⟩,trivial⟩
theorem d_EqualFunc_Rls (F:Nat) (H:∀x y:List Rl,PDoes Tryz.prog F [.sl (x.map cRl),.sl (y.map cRl)] (.b (decide (x=y)))) (a b:List (List Rl)) (q:Bool) (hq:decide (a=b)=q):PDoes Tryz.prog 175 [.sl (a.map cRls),.sl (b.map cRls),.fn F [] []] (.b q):=by
  refine PDoes.of_bodyN Tryz.func175 rfl (by kernel_rfl) rfl rfl ?_
  have la:(a.map cRls).length=a.length:=List.length_map ..
  have lb:(b.map cRls).length=b.length:=List.length_map ..
  (repeat first|apply wA|apply wB|apply wC|apply wE|(apply zM;·kernel_rfl)|refine zI rfl ?_|refine zJ rfl ?_)
  refine AW.cond rfl (fun h=>?_) (fun h=>?_)
  · have h:¬a.length=b.length:=by simp at h;omega
    rw [eq_len h] at hq
    (repeat first|apply wA|apply wB|apply wC|apply wE|(apply zM;·kernel_rfl)|refine zI rfl ?_|refine zJ rfl ?_)
    refine AW.ret (retQA ty_ok rfl rfl rfl ?_)
    exact congrArg AV.b hq
  have h:a.length=b.length:=by simp at h;omega
  (repeat first|apply wA|apply wB|apply wC|apply wE|(apply zM;·kernel_rfl)|refine zI rfl ?_|refine zJ rfl ?_)
  refine AW.lens 0 rfl fun hm=>?_
  rw [List.length_map] at hm
  refine AW.loopL (ι:=Nat) (fun k=>[(1,.sl (b.map cRls)),(2,.fn F [] []),(15,.sl (a.map cRls)),(16,.i .i64 (a.map cRls).length),(17,.i .i64 (k:Nat))]) (fun _=>[]) (fun k=>k≤a.length∧decide (a.drop k=b.drop k)=q) (fun k=>a.length - k) 0 ⟨Nat.zero_le _,hq⟩ ⟨rI rfl rfl,Rn.fnF rfl rfl,rI rfl rfl,rI rfl rfl,rI rfl rfl,trivial⟩ trivial fun k hk=>?_
  clear hq
  obtain ⟨hk,hf⟩:=hk
  (repeat first|apply wA|apply wB|apply wC|apply wE|(apply zM;·kernel_rfl)|refine zI rfl ?_|refine zJ rfl ?_)
  refine AW.cond rfl (fun h1=>?_) (fun h1=>?_)
  rotate_left
  · have h':¬k<a.length:=by simpa using h1
    obtain rfl:k=a.length:=by omega
    rw [List.drop_length,h,List.drop_length] at hf
    (repeat first|apply wA|apply wB|apply wC|apply wE|(apply zM;·kernel_rfl)|refine zI rfl ?_|refine zJ rfl ?_)
    refine AW.exit ?_;refine Eq.mpr (if_pos rfl) ?_;(repeat first|apply wA|apply wB|apply wC|apply wE|(apply zM;·kernel_rfl)|refine zI rfl ?_|refine zJ rfl ?_)
    refine AW.ret (retQA ty_ok rfl rfl rfl ?_)
    exact congrArg AV.b hf
  have h':k<a.length:=by simpa using h1
  have h'':k<b.length:=by omega
  rw [List.drop_eq_getElem_cons h',List.drop_eq_getElem_cons h'',eq_step] at hf
  have hax:(a.map cRls)[k]?=some (cRls a[k]):=by rw [List.getElem?_map,List.getElem?_eq_getElem h'];rfl
  have hbx:(b.map cRls)[k]?=some (cRls b[k]):=by rw [List.getElem?_map,List.getElem?_eq_getElem h''];rfl
  generalize a[k]=x at hf hax
  generalize b[k]=y at hf hbx
  (repeat first|apply wA|apply wB|apply wC|apply wE|(apply zM;·kernel_rfl)|refine zI rfl ?_|refine zJ rfl ?_)
  refine RG.opS rfl (op_index rfl (tab_ok ty_ok rfl) rfl (tab_ok ty_ok rfl) rfl rfl hax rfl) rfl ?_
  refine wH rfl ?_;(repeat first|apply wA|apply wB|apply wC|apply wE|(apply zM;·kernel_rfl)|refine zI rfl ?_|refine zJ rfl ?_)
  refine RG.opS rfl (op_index rfl (tab_ok ty_ok rfl) rfl (tab_ok ty_ok rfl) rfl rfl hbx rfl) rfl ?_
  refine wH rfl ?_;(repeat first|apply wA|apply wB|apply wC|apply wE|(apply zM;·kernel_rfl)|refine zI rfl ?_|refine zJ rfl ?_)
  have hx:=H x y
  cases e:decide (x=y)
  · rw [e] at hf hx
    refine RG.callS rfl rfl rfl rfl rfl hx rfl rfl ?_;refine wH rfl ?_;(repeat first|apply wA|apply wB|apply wC|apply wE|(apply zM;·kernel_rfl)|refine zI rfl ?_|refine zJ rfl ?_)
    refine AW.condT rfl ?_;(repeat first|apply wA|apply wB|apply wC|apply wE|(apply zM;·kernel_rfl)|refine zI rfl ?_|refine zJ rfl ?_)
    refine AW.ret (retQA ty_ok rfl rfl rfl ?_)
    exact congrArg AV.b hf
  · rw [e,Bool.true_and] at hf
    rw [e] at hx
    refine RG.callS rfl rfl rfl rfl rfl hx rfl rfl ?_;refine wH rfl ?_;(repeat first|apply wA|apply wB|apply wC|apply wE|(apply zM;·kernel_rfl)|refine zI rfl ?_|refine zJ rfl ?_)
    refine AW.condF rfl ?_;(repeat first|apply wA|apply wB|apply wC|apply wE|(apply zM;·kernel_rfl)|refine zI rfl ?_|refine zJ rfl ?_)
    exact ⟨k+1,⟨⟨h',hf⟩,by omega⟩,⟨rI rfl rfl,Rn.fnF rfl rfl,rI rfl rfl,rI rfl rfl,rI (i64_next h' hm) rfl,trivial⟩,trivial⟩
theorem d_alike_Pt (a b:List (List Pt)) (q:Bool) (hq:decide (a=b)=q):PDoes Tryz.prog 144 [.sl (a.map cPts),.sl (b.map cPts)] (.b q):=by
 refine PDoes.of_bodyN Tryz.func144 rfl (by kernel_rfl) rfl rfl ?_
 (repeat first|apply wA|apply wB|apply wC|apply wE|(apply zM;·kernel_rfl)|refine zI rfl ?_|refine zJ rfl ?_)
 refine RG.callS rfl rfl rfl rfl rfl (d_EqualFunc_Pts 174 (fun x y=>d_Equal_Pt x y _ rfl) a b q hq) rfl rfl ?_;refine wH rfl ?_;(repeat first|apply wA|apply wB|apply wC|apply wE|(apply zM;·kernel_rfl)|refine zI rfl ?_|refine zJ rfl ?_)
 refine AW.ret (retQA ty_ok rfl rfl rfl ?_)
 rfl
theorem d_alike_Rl (a b:List (List Rl)) (q:Bool) (hq:decide (a=b)=q):PDoes Tryz.prog 148 [.sl (a.map cRls),.sl (b.map cRls)] (.b q):=by
 refine PDoes.of_bodyN Tryz.func148 rfl (by kernel_rfl) rfl rfl ?_
 (repeat first|apply wA|apply wB|apply wC|apply wE|(apply zM;·kernel_rfl)|refine zI rfl ?_|refine zJ rfl ?_)
 refine RG.callS rfl rfl rfl rfl rfl (d_EqualFunc_Rls 176 (fun x y=>d_Equal_Rl x y _ rfl) a b q hq) rfl rfl ?_;refine wH rfl ?_;(repeat first|apply wA|apply wB|apply wC|apply wE|(apply zM;·kernel_rfl)|refine zI rfl ?_|refine zJ rfl ?_)
 refine AW.ret (retQA ty_ok rfl rfl rfl ?_)
 rfl
theorem d_EqualFunc_Tab (F:Nat) (H:∀x y:List (List Rl),PDoes Tryz.prog F [.sl (x.map cRls),.sl (y.map cRls)] (.b (decide (x=y)))) (a b:List (List (List Rl))) (q:Bool) (hq:decide (a=b)=q):PDoes Tryz.prog 147 [.sl (a.map cTab),.sl (b.map cTab),.fn F [] []] (.b q):=by
  refine PDoes.of_bodyN Tryz.func147 rfl (by kernel_rfl) rfl rfl ?_
  have la:(a.map cTab).length=a.length:=List.length_map ..
  have lb:(b.map cTab).length=b.length:=List.length_map ..
  (repeat first|apply wA|apply wB|apply wC|apply wE|(apply zM;·kernel_rfl)|refine zI rfl ?_|refine zJ rfl ?_)
  refine AW.cond rfl (fun h=>?_) (fun h=>?_)
  · have h:¬a.length=b.length:=by simp at h;omega
    rw [eq_len h] at hq
    (repeat first|apply wA|apply wB|apply wC|apply wE|(apply zM;·kernel_rfl)|refine zI rfl ?_|refine zJ rfl ?_)
    refine AW.ret (retQA ty_ok rfl rfl rfl ?_)
    exact congrArg AV.b hq
  have h:a.length=b.length:=by simp at h;omega
  (repeat first|apply wA|apply wB|apply wC|apply wE|(apply zM;·kernel_rfl)|refine zI rfl ?_|refine zJ rfl ?_)
  refine AW.lens 0 rfl fun hm=>?_
  rw [List.length_map] at hm
  refine AW.loopL (ι:=Nat) (fun k=>[(1,.sl (b.map cTab)),(2,.fn F [] []),(15,.sl (a.map cTab)),(16,.i .i64 (a.map cTab).length),(17,.i .i64 (k:Nat))]) (fun _=>[]) (fun k=>k≤a.length∧decide (a.drop k=b.drop k)=q) (fun k=>a.length - k) 0 ⟨Nat.zero_le _,hq⟩ ⟨rI rfl rfl,Rn.fnF rfl rfl,rI rfl rfl,rI rfl rfl,rI rfl rfl,trivial⟩ trivial fun k hk=>?_
  clear hq
  obtain ⟨hk,hf⟩:=hk
  (repeat first|apply wA|apply wB|apply wC|apply wE|(apply zM;·kernel_rfl)|refine zI rfl ?_|refine zJ rfl ?_)
  refine AW.cond rfl (fun h1=>?_) (fun h1=>?_)
  rotate_left
  · have h':¬k<a.length:=by simpa using h1
    obtain rfl:k=a.length:=by omega
    rw [List.drop_length,h,List.drop_length] at hf
    (repeat first|apply wA|apply wB|apply wC|apply wE|(apply zM;·kernel_rfl)|refine zI rfl ?_|refine zJ rfl ?_)
    refine AW.exit ?_;refine Eq.mpr (if_pos rfl) ?_;(repeat first|apply wA|apply wB|apply wC|apply wE|(apply zM;·kernel_rfl)|refine zI rfl ?_|refine zJ rfl ?_)
    refine AW.ret (retQA ty_ok rfl rfl rfl ?_)
    exact congrArg AV.b hf
  have h':k<a.length:=by simpa using h1
  have h'':k<b.length:=by omega
  rw [List.drop_eq_getElem_cons h',List.drop_eq_getElem_cons h'',eq_step] at hf
  have hax:(a.map cTab)[k]?=some (cTab a[k]):=by rw [List.getElem?_map,List.getElem?_eq_getElem h'];rfl
  have hbx:(b.map cTab)[k]?=some (cTab b[k]):=by rw [List.getElem?_map,List.getElem?_eq_getElem h''];rfl
  generalize a[k]=x at hf hax
  generalize b[k]=y at hf hbx
  (repeat first|apply wA|apply wB|apply wC|apply wE|(apply zM;·kernel_rfl)|refine zI rfl ?_|refine zJ rfl ?_)
  refine RG.opS rfl (op_index rfl (tab_ok ty_ok rfl) rfl (tab_ok ty_ok rfl) rfl rfl hax rfl) rfl ?_
  refine wH rfl ?_;(repeat first|apply wA|apply wB|apply wC|apply wE|(apply zM;·kernel_rfl)|refine zI rfl ?_|refine zJ rfl ?_)
  refine RG.opS rfl (op_index rfl (tab_ok ty_ok rfl) rfl (tab_ok ty_ok rfl) rfl rfl hbx rfl) rfl ?_
  refine wH rfl ?_;(repeat first|apply wA|apply wB|apply wC|apply wE|(apply zM;·kernel_rfl)|refine zI rfl ?_|refine zJ rfl ?_)
  have hx:=H x y
  cases e:decide (x=y)
  · rw [e] at hf hx
    refine RG.callS rfl rfl rfl rfl rfl hx rfl rfl ?_;refine wH rfl ?_;(repeat first|apply wA|apply wB|apply wC|apply wE|(apply zM;·kernel_rfl)|refine zI rfl ?_|refine zJ rfl ?_)
    refine AW.condT rfl ?_;(repeat first|apply wA|apply wB|apply wC|apply wE|(apply zM;·kernel_rfl)|refine zI rfl ?_|refine zJ rfl ?_)
    refine AW.ret (retQA ty_ok rfl rfl rfl ?_)
    exact congrArg AV.b hf
  · rw [e,Bool.true_and] at hf
    rw [e] at hx
    refine RG.callS rfl rfl rfl rfl rfl hx rfl rfl ?_;refine wH rfl ?_;(repeat first|apply wA|apply wB|apply wC|apply wE|(apply zM;·kernel_rfl)|refine zI rfl ?_|refine zJ rfl ?_)
    refine AW.condF rfl ?_;(repeat first|apply wA|apply wB|apply wC|apply wE|(apply zM;·kernel_rfl)|refine zI rfl ?_|refine zJ rfl ?_)
    exact ⟨k+1,⟨⟨h',hf⟩,by omega⟩,⟨rI rfl rfl,Rn.fnF rfl rfl,rI rfl rfl,rI rfl rfl,rI (i64_next h' hm) rfl,trivial⟩,trivial⟩
def topC (t:List (List Pt)):Cf:=⟨⟨t⟩,⟨0,[],[]⟩,[]⟩
theorem d_Same (a b:List (List Pt)) (q:Bool) (hq:decide (a=b)=q):PDoes Tryz.prog 92 [.agg (cCf (topC a)),.agg (cCf (topC b))] (.b q):=by
 refine PDoes.of_bodyN Tryz.func92 rfl (by kernel_rfl) rfl rfl ?_
 (repeat first|apply wA|apply wB|apply wC|apply wE|(apply zM;·kernel_rfl));refine wF ?_;refine wH rfl ?_;(repeat first|apply wA|apply wB|apply wC|apply wE|(apply zM;·kernel_rfl));refine wG ?_;refine wH rfl ?_;(repeat first|apply wA|apply wB|apply wC|apply wE|(apply zM;·kernel_rfl))
 refine AW.text ?_
 refine wH rfl ?_
 cases q
 ·refine RG.callS rfl rfl rfl rfl rfl (d_alike_Pt a b _ hq) rfl rfl ?_;refine wH rfl ?_;(repeat first|apply wA|apply wB|apply wC|apply wE|(apply zM;·kernel_rfl)|refine zI rfl ?_|refine zJ rfl ?_)
  refine AW.ret (retQA ty_ok rfl rfl rfl ?_)
  rfl
 refine RG.callS rfl rfl rfl rfl rfl (d_alike_Pt a b _ hq) rfl rfl ?_
 refine wH rfl ?_
 refine RG.callS rfl rfl rfl rfl rfl (d_Equal_Pr [] [] true rfl) rfl rfl ?_
 refine wH rfl ?_
 refine RG.callS rfl rfl rfl rfl rfl (d_Equal_Wy [] [] true rfl) rfl rfl ?_
 refine wH rfl ?_
 refine RG.callS rfl rfl rfl rfl rfl (d_EqualFunc_Tab 148 (fun x y=>d_alike_Rl x y _ rfl) [] [] true rfl) rfl rfl ?_;refine wH rfl ?_;(repeat first|apply wA|apply wB|apply wC|apply wE|(apply zM;·kernel_rfl)|refine zI rfl ?_|refine zJ rfl ?_)
 refine AW.ret (retQA ty_ok rfl rfl rfl ?_)
 rfl
end Go.Proofs.YtahjjfhjjbgjaaaGreat.Sm
end
section
namespace Go.Proofs.YtahjjfhjjbgjaaaGreat.Sm
open Go.RowKit
def cBo (c d:Cf) (V:Int):List AV:=[.sl (c.topo.ports.map cPts),.i .i64 c.pol.tenants,.sl (c.pol.peers.map cPr),.sl (c.pol.ways.map cWy),.sl (c.tables.map cTab),.sl (d.topo.ports.map cPts),.i .i64 d.pol.tenants,.sl (d.pol.peers.map cPr),.sl (d.pol.ways.map cWy),.sl (d.tables.map cTab),.i .i64 V]
def endEq (a b:Run):Bool:=decide (a.fin=b.fin) && decide (a.at_=b.at_)
theorem d_dSame (a b:Run):PDoes Tryz.prog 28 [.agg (cRun a),.agg (cRun b)] (.b (endEq a b)):=by
 refine PDoes.of_bodyN Tryz.func28 rfl (by kernel_rfl) rfl rfl ?_
 rw [endEq]
 (repeat first|apply wA|apply wB|apply wC|apply wE|(apply zM;·kernel_rfl));refine wF ?_;refine wH rfl ?_;(repeat first|apply wA|apply wB|apply wC|apply wE|(apply zM;·kernel_rfl))
 refine AW.text ?_
 by_cases g:a.fin=b.fin
 ·rw [decide_eq_true g]
  refine RG.runO ty_ok 0 [(9,.b true)] 400 rfl (by repeat' (first|exact trivial|apply And.intro|exact dT ‹_›|exact dF ‹_›|exact dN ‹_›|exact dM ‹_›|exact dI ‹_›)) ?_
  refine RG.opS rfl (op_eqG rfl ty_ok (by kernel_rfl) (by kernel_rfl) rfl rfl (eq_Sp a.at_ b.at_) rfl) rfl ?_
  refine wH rfl ?_;(repeat first|apply wA|apply wB|apply wC|apply wE|(apply zM;·kernel_rfl)|refine zI rfl ?_|refine zJ rfl ?_)
  refine AW.ret (retQA ty_ok rfl rfl rfl ?_)
  rfl
 ·rw [decide_eq_false g]
  refine RG.runO ty_ok 0 [(9,.b false)] 400 rfl (by repeat' (first|exact trivial|apply And.intro|exact dT ‹_›|exact dF ‹_›|exact dN ‹_›|exact dM ‹_›|exact dI ‹_›)) ?_
  (repeat first|apply wA|apply wB|apply wC|apply wE|(apply zM;·kernel_rfl)|refine zI rfl ?_|refine zJ rfl ?_)
  refine AW.ret (retQA ty_ok rfl rfl rfl ?_)
  rfl
def rightE (c d:Cf) (V:Int):Int:=if c.sound=0 then (if d.sound=0 then (if V<0∨V>255 then 4 else if c.topo.ports=d.topo.ports then 0 else 1) else d.sound) else c.sound
theorem d_bright (c d:Cf) (V:Int):PDoes Tryz.prog 49 [.agg (cBo c d V)] (.i .i64 (rightE c d V)):=by
  refine PDoes.of_bodyN Tryz.func49 rfl (by kernel_rfl) rfl rfl ?_
  (repeat first|apply wA|apply wB|apply wC|apply wE|(apply zM;·kernel_rfl)|refine zI rfl ?_|refine zJ rfl ?_)
  refine AW.loopL (ι:=Nat) (fun k=>[(1,.own 1 0 0),(10,.row 10 0 0 2),(11,.i .i64 ((2:Nat):Int)),(12,.i .i64 (k:Nat))]) (fun _=>[(1,⟨0,some (.box 104 (cBo c d V))⟩),(10,⟨0,some (.row 31 5 ([c,d].map cCf))⟩)]) (fun k=>k≤2∧(0<k→c.sound=0)∧(1<k→d.sound=0)) (fun k=>2 - k) 0 ⟨Nat.zero_le _,fun h=>absurd h (by omega),fun h=>absurd h (by omega)⟩ (by repeat(first|exact trivial|refine ⟨rI rfl rfl,?_⟩|refine ⟨rO rfl rfl rfl,?_⟩|refine ⟨rR rfl rfl rfl,?_⟩|refine ⟨bR rfl rfl,?_⟩|refine ⟨bS rfl rfl rfl,?_⟩)) (by repeat(first|exact trivial|refine ⟨rI rfl rfl,?_⟩|refine ⟨rO rfl rfl rfl,?_⟩|refine ⟨rR rfl rfl rfl,?_⟩|refine ⟨bR rfl rfl,?_⟩|refine ⟨bS rfl rfl rfl,?_⟩)) fun k hk=>?_
  obtain ⟨hk,h1,h2⟩:=hk
  (repeat first|apply wA|apply wB|apply wC|apply wE|(apply zM;·kernel_rfl)|refine zI rfl ?_|refine zJ rfl ?_)
  refine AW.cond rfl (fun h3=>?_) (fun h3=>?_)
  rotate_left
  · have h:¬((k:Nat):Int)<(2:Nat):=of_decide_eq_false h3
    have g1:=h1 (by omega)
    have g2:=h2 (by omega)
    (repeat first|apply wA|apply wB|apply wC|apply wE|(apply zM;·kernel_rfl));refine AW.exit ?_;refine Eq.mpr (if_pos rfl) ?_;(repeat first|apply wA|apply wB|apply wC|apply wE|(apply zM;·kernel_rfl))
    refine AW.text ?_
    by_cases g3:V<0
    · have e:rightE c d V=4:=by rw [rightE,if_pos g1,if_pos g2,if_pos (.inl g3)]
      rw [e]
      refine RG.runO ty_ok 0 [(25,.b true)] 400 rfl (by repeat' (first|exact trivial|apply And.intro|exact dT ‹_›|exact dF ‹_›|exact dN ‹_›|exact dM ‹_›|exact dI ‹_›)) ?_
      (repeat first|apply wA|apply wB|apply wC|apply wE|(apply zM;·kernel_rfl));refine AW.condT rfl ?_;(repeat first|apply wA|apply wB|apply wC|apply wE|(apply zM;·kernel_rfl)|refine zI rfl ?_|refine zJ rfl ?_)
      refine AW.ret (retQA ty_ok rfl rfl rfl ?_)
      rfl
    by_cases g4:V>255
    · have e:rightE c d V=4:=by rw [rightE,if_pos g1,if_pos g2,if_pos (.inr g4)]
      rw [e]
      refine RG.runO ty_ok 0 [(25,.b false),(29,.b true)] 400 rfl (by repeat' (first|exact trivial|apply And.intro|exact dT ‹_›|exact dF ‹_›|exact dN ‹_›|exact dM ‹_›|exact dI ‹_›)) ?_
      (repeat first|apply wA|apply wB|apply wC|apply wE|(apply zM;·kernel_rfl));refine AW.condT rfl ?_;(repeat first|apply wA|apply wB|apply wC|apply wE|(apply zM;·kernel_rfl)|refine zI rfl ?_|refine zJ rfl ?_)
      refine AW.ret (retQA ty_ok rfl rfl rfl ?_)
      rfl
    refine RG.runO ty_ok 0 [(25,.b false),(29,.b false)] 400 rfl (by repeat' (first|exact trivial|apply And.intro|exact dT ‹_›|exact dF ‹_›|exact dN ‹_›|exact dM ‹_›|exact dI ‹_›)) ?_
    (repeat first|apply wA|apply wB|apply wC|apply wE|(apply zM;·kernel_rfl));refine AW.condF rfl ?_;(repeat first|apply wA|apply wB|apply wC|apply wE|(apply zM;·kernel_rfl)|refine zI rfl ?_|refine zJ rfl ?_)
    by_cases g5:c.topo.ports=d.topo.ports
    · have e:rightE c d V=0:=by rw [rightE,if_pos g1,if_pos g2,if_neg (by omega),if_pos g5]
      rw [e]
      refine RG.callS rfl rfl rfl rfl rfl (d_Same c.topo.ports d.topo.ports _ (decide_eq_true g5)) rfl rfl ?_;refine wH rfl ?_;(repeat first|apply wA|apply wB|apply wC|apply wE|(apply zM;·kernel_rfl)|refine zI rfl ?_|refine zJ rfl ?_)
      refine AW.condF rfl ?_;(repeat first|apply wA|apply wB|apply wC|apply wE|(apply zM;·kernel_rfl)|refine zI rfl ?_|refine zJ rfl ?_)
      refine AW.ret (retQA ty_ok rfl rfl rfl ?_)
      rfl
    · have e:rightE c d V=1:=by rw [rightE,if_pos g1,if_pos g2,if_neg (by omega),if_neg g5]
      rw [e]
      refine RG.callS rfl rfl rfl rfl rfl (d_Same c.topo.ports d.topo.ports _ (decide_eq_false g5)) rfl rfl ?_;refine wH rfl ?_;(repeat first|apply wA|apply wB|apply wC|apply wE|(apply zM;·kernel_rfl)|refine zI rfl ?_|refine zJ rfl ?_)
      refine AW.condT rfl ?_;(repeat first|apply wA|apply wB|apply wC|apply wE|(apply zM;·kernel_rfl)|refine zI rfl ?_|refine zJ rfl ?_)
      refine AW.ret (retQA ty_ok rfl rfl rfl ?_)
      rfl
  have h:k<2:=by have:=of_decide_eq_true h3;omega
  obtain ⟨x,hx⟩:∃x,[c,d][k]?=some x:=⟨_,List.getElem?_eq_getElem (by simpa using h)⟩
  (repeat first|apply wA|apply wB|apply wC|apply wE|(apply zM;·kernel_rfl))
  refine AW.text ?_
  refine RG.opS rfl (op_indexR0 k cCf [c,d] (by omega) rfl (tab_ok ty_ok rfl) rfl (tab_ok ty_ok rfl) rfl rfl rfl) rfl ?_
  refine RG.opS rfl (op_loadRow k cCf [c,d] x hx rfl (tab_ok ty_ok rfl) rfl rfl rfl) rfl ?_
  refine wH rfl ?_;(repeat first|apply wA|apply wB|apply wC|apply wE|(apply zM;·kernel_rfl)|refine zI rfl ?_|refine zJ rfl ?_)
  refine RG.callS rfl rfl rfl rfl rfl (d_CSound x) rfl rfl ?_;refine wH rfl ?_;(repeat first|apply wA|apply wB|apply wC|apply wE|(apply zM;·kernel_rfl)|refine zI rfl ?_|refine zJ rfl ?_)
  refine AW.cond rfl (fun h4=>?_) (fun h4=>?_)
  · have h4:¬x.sound=0:=by simpa using h4
    (repeat first|apply wA|apply wB|apply wC|apply wE|(apply zM;·kernel_rfl)|refine zI rfl ?_|refine zJ rfl ?_)
    refine AW.ret (retQA ty_ok rfl rfl rfl ?_)
    match k with
    | 0 =>
      obtain rfl:c=x:=by simpa using hx
      exact congrArg (AV.i .i64) (by rw [rightE,if_neg h4])
    | 1 =>
      obtain rfl:d=x:=by simpa using hx
      exact congrArg (AV.i .i64) (by rw [rightE,if_pos (h1 (by omega)),if_neg h4])
    | k+2=>omega
  · have h4:x.sound=0:=by simpa using h4
    (repeat first|apply wA|apply wB|apply wC|apply wE|(apply zM;·kernel_rfl)|refine zI rfl ?_|refine zJ rfl ?_)
    refine ⟨k+1,⟨⟨by omega,fun _=>?_,fun hk1=>?_⟩,by omega⟩,(by repeat(first|exact trivial|refine ⟨rI rfl rfl,?_⟩|refine ⟨rI (i64_next (by assumption) (by first|assumption|decide)) rfl,?_⟩|refine ⟨rO rfl rfl rfl,?_⟩|refine ⟨rR rfl rfl rfl,?_⟩|refine ⟨bR rfl rfl,?_⟩|refine ⟨bS rfl rfl rfl,?_⟩)),(by repeat(first|exact trivial|refine ⟨rI rfl rfl,?_⟩|refine ⟨rO rfl rfl rfl,?_⟩|refine ⟨rR rfl rfl rfl,?_⟩|refine ⟨bR rfl rfl,?_⟩|refine ⟨bS rfl rfl rfl,?_⟩))⟩
    · match k with
      | 0 =>
        obtain rfl:c=x:=by simpa using hx
        exact h4
      | k+1=>exact h1 (by omega)
    · match k with
      | 0=>omega
      | 1 =>
        obtain rfl:d=x:=by simpa using hx
        exact h4
      | k+2=>omega
def bothAt (c d:Cf) (V:Int) (l1 l2:List Cb):List Atom × Int:=bif decide ((askedOf c V).length>500) then ([],10) else bif decide ((askedOf d V).length>500) then ([],10) else atomsOf (addAll (addAll [] l1) l2)
def allAt (l1 l2:List Cb):Nat→List Cb
 | 0=>[]
 | 1=>addAll [] l1
 | _=>addAll (addAll [] l1) l2
theorem d_batoms (c d:Cf) (V:Int) (l1 l2:List Cb) (H1:PDoes Tryz.prog 72 [.agg (cCf c),.i .i64 V] (ofR (askedOf c V) l1)) (H2:PDoes Tryz.prog 72 [.agg (cCf d),.i .i64 V] (ofR (askedOf d V) l2)) (g1:l1.length=(askedOf c V).length) (g2:l2.length=(askedOf d V).length):PDoes Tryz.prog 50 [.agg (cBo c d V)] (atsR (bothAt c d V l1 l2)):=by
  refine PDoes.of_bodyN Tryz.func50 rfl (by kernel_rfl) rfl rfl ?_
  (repeat first|apply wA|apply wB|apply wC|apply wE|(apply zM;·kernel_rfl))
  refine AW.text ?_
  refine wH rfl ?_
  (repeat first|apply wA|apply wB|apply wC|apply wE|(apply zM;·kernel_rfl))
  refine AW.text ?_
  refine RG.opS rfl (op_nilRow 4 50 4 rfl) rfl ?_
  refine wH rfl ?_;(repeat first|apply wA|apply wB|apply wC|apply wE|(apply zM;·kernel_rfl)|refine zI rfl ?_|refine zJ rfl ?_)
  refine AW.loopL (ι:=Nat) (fun k=>[(1,.own 1 0 0),(4,.row 4 0 0 ((allAt l1 l2 k).map cCb).length),(15,.row 15 0 0 2),(16,.i .i64 ((2:Nat):Int)),(17,.i .i64 (k:Nat))]) (fun k=>[(1,⟨0,some (.box 104 (cBo c d V))⟩),(4,⟨0,some (.row 50 4 ((allAt l1 l2 k).map cCb))⟩),(15,⟨0,some (.row 31 5 ([c,d].map cCf))⟩)]) (fun k=>k≤2∧(0<k→(askedOf c V).length≤500)∧(1<k→(askedOf d V).length≤500)) (fun k=>2 - k) 0 ⟨Nat.zero_le _,fun h=>absurd h (by omega),fun h=>absurd h (by omega)⟩ (by repeat(first|exact trivial|refine ⟨rI rfl rfl,?_⟩|refine ⟨rO rfl rfl rfl,?_⟩|refine ⟨rR rfl rfl rfl,?_⟩|refine ⟨bR rfl rfl,?_⟩|refine ⟨bS rfl rfl rfl,?_⟩)) (by repeat(first|exact trivial|refine ⟨rI rfl rfl,?_⟩|refine ⟨rO rfl rfl rfl,?_⟩|refine ⟨rR rfl rfl rfl,?_⟩|refine ⟨bR rfl rfl,?_⟩|refine ⟨bS rfl rfl rfl,?_⟩)) fun k hk=>?_
  obtain ⟨hk,h1,h2⟩:=hk
  (repeat first|apply wA|apply wB|apply wC|apply wE|(apply zM;·kernel_rfl)|refine zI rfl ?_|refine zJ rfl ?_)
  refine AW.cond rfl (fun h3=>?_) (fun h3=>?_)
  rotate_left
  · have h:¬((k:Nat):Int)<(2:Nat):=of_decide_eq_false h3
    obtain rfl:k=2:=by omega
    have e:bothAt c d V l1 l2=atomsOf (addAll (addAll [] l1) l2):=by
      have:=h1 (by omega)
      have:=h2 (by omega)
      rw [bothAt,decide_eq_false (by omega),decide_eq_false (by omega)]
      rfl
    rw [e]
    (repeat first|apply wA|apply wB|apply wC|apply wE|(apply zM;·kernel_rfl)|refine zI rfl ?_|refine zJ rfl ?_)
    refine AW.exit ?_;refine Eq.mpr (if_pos rfl) ?_;(repeat first|apply wA|apply wB|apply wC|apply wE|(apply zM;·kernel_rfl)|refine zI rfl ?_|refine zJ rfl ?_)
    refine RG.callMS rfl rfl rfl rfl (congrArg (fun x=>[x]) (rowAll rfl)) rfl (d_Split (allAt l1 l2 2)) rfl ?_;refine wH rfl ?_;(repeat first|apply wA|apply wB|apply wC|apply wE|(apply zM;·kernel_rfl)|refine zI rfl ?_|refine zJ rfl ?_)
    refine AW.ret (retQA ty_ok rfl rfl rfl ?_)
    rfl
  have h:k<2:=by have:=of_decide_eq_true h3;omega
  obtain ⟨x,hx⟩:∃x,[c,d][k]?=some x:=⟨_,List.getElem?_eq_getElem (by simpa using h)⟩
  have hO:∃lx,PDoes Tryz.prog 72 [.agg (cCf x),.i .i64 V] (ofR (askedOf x V) lx)∧lx.length=(askedOf x V).length∧allAt l1 l2 (k+1)=addAll (allAt l1 l2 k) lx∧((askedOf x V).length>500→bothAt c d V l1 l2=([],10))∧((askedOf x V).length≤500→(0<k+1→(askedOf c V).length≤500)∧(1<k+1→(askedOf d V).length≤500))∧(allAt l1 l2 k).length≤500:=by
    match k with
    | 0 =>
      obtain rfl:c=x:=by simpa using hx
      exact ⟨l1,H1,g1,rfl,fun hb=>by rw [bothAt,decide_eq_true hb];rfl,fun hb=>⟨fun _=>hb,fun h=>absurd h (by omega)⟩,Nat.zero_le _⟩
    | 1 =>
      obtain rfl:d=x:=by simpa using hx
      have hb1:=h1 (by omega)
      refine ⟨l2,H2,g2,rfl,fun hb=>by rw [bothAt,decide_eq_false (by omega),decide_eq_true hb];rfl,fun hb=>⟨fun _=>hb1,fun _=>hb⟩,?_⟩
      have:=addAll_len l1 []
      show (addAll [] l1).length≤500
      rw [List.length_nil] at this
      omega
    | k+2=>omega
  obtain ⟨lx,hOf,hlx,hall,hbad,hgood,hlen⟩:=hO
  (repeat first|apply wA|apply wB|apply wC|apply wE|(apply zM;·kernel_rfl))
  refine AW.text ?_
  refine RG.opS rfl (op_indexR0 k cCf [c,d] (by omega) rfl (tab_ok ty_ok rfl) rfl (tab_ok ty_ok rfl) rfl rfl rfl) rfl ?_
  refine RG.opS rfl (op_loadRow k cCf [c,d] x hx rfl (tab_ok ty_ok rfl) rfl rfl rfl) rfl ?_
  refine wH rfl ?_;(repeat first|apply wA|apply wB|apply wC|apply wE|(apply zM;·kernel_rfl)|refine zI rfl ?_|refine zJ rfl ?_)
  by_cases hb:(askedOf x V).length>500
  · rw [ofR,decide_eq_true hb,cond_true] at hOf
    rw [hbad hb]
    refine RG.callMS rfl rfl rfl rfl rfl rfl hOf rfl ?_;refine wH rfl ?_;(repeat first|apply wA|apply wB|apply wC|apply wE|(apply zM;·kernel_rfl)|refine zI rfl ?_|refine zJ rfl ?_)
    refine AW.condT rfl ?_;(repeat first|apply wA|apply wB|apply wC|apply wE|(apply zM;·kernel_rfl)|refine zI rfl ?_|refine zJ rfl ?_)
    refine AW.ret (retQA ty_ok rfl rfl rfl ?_)
    rfl
  rw [ofR,decide_eq_false hb,cond_false] at hOf
  have hgood:=hgood (by omega)
  refine RG.callMS rfl rfl rfl rfl rfl rfl hOf rfl ?_;refine wH rfl ?_;(repeat first|apply wA|apply wB|apply wC|apply wE|(apply zM;·kernel_rfl)|refine zI rfl ?_|refine zJ rfl ?_)
  refine AW.condF rfl ?_;(repeat first|apply wA|apply wB|apply wC|apply wE|(apply zM;·kernel_rfl)|refine zI rfl ?_|refine zJ rfl ?_)
  have hm:lx.length≤9223372036854775807:=by omega
  generalize allAt l1 l2 k=acc at hall hlen
  refine AW.loopL (ι:=Nat × List Cb) (fun i=>[(1,.own 1 0 0),(4,.row 4 0 0 (i.2.map cCb).length),(15,.row 15 0 0 2),(16,.i .i64 ((2:Nat):Int)),(17,.i .i64 (k:Nat)),(31,.sl (lx.map cCb)),(32,.i .i64 (lx.map cCb).length),(33,.i .i64 (i.1:Nat))]) (fun i=>[(1,⟨0,some (.box 104 (cBo c d V))⟩),(4,⟨0,some (.row 50 4 (i.2.map cCb))⟩),(15,⟨0,some (.row 31 5 ([c,d].map cCf))⟩)]) (fun i=>(i.1≤lx.length∧i.2.length≤500+i.1)∧addAll i.2 (lx.drop i.1)=allAt l1 l2 (k+1)) (fun i=>lx.length - i.1) (0,acc) ⟨⟨Nat.zero_le _,hlen⟩,hall.symm⟩ (by repeat(first|exact trivial|refine ⟨rI rfl rfl,?_⟩|refine ⟨rO rfl rfl rfl,?_⟩|refine ⟨rR rfl rfl rfl,?_⟩|refine ⟨bR rfl rfl,?_⟩|refine ⟨bS rfl rfl rfl,?_⟩)) (by repeat(first|exact trivial|refine ⟨rI rfl rfl,?_⟩|refine ⟨rO rfl rfl rfl,?_⟩|refine ⟨rR rfl rfl rfl,?_⟩|refine ⟨bR rfl rfl,?_⟩|refine ⟨bS rfl rfl rfl,?_⟩)) fun i hi=>?_
  clear hall hlen
  obtain ⟨j,acc⟩:=i
  obtain ⟨⟨hj,hl⟩,hf⟩:=hi
  simp only at hj hl hf
  (repeat first|apply wA|apply wB|apply wC|apply wE|(apply zM;·kernel_rfl)|refine zI rfl ?_|refine zJ rfl ?_)
  refine AW.cond rfl (fun h4=>?_) (fun h4=>?_)
  rotate_left
  · have h':¬j<lx.length:=by simpa using h4
    obtain rfl:j=lx.length:=by omega
    rw [List.drop_length,addAll] at hf
    subst hf
    (repeat first|apply wA|apply wB|apply wC|apply wE|(apply zM;·kernel_rfl)|refine zI rfl ?_|refine zJ rfl ?_)
    refine AW.exit ?_;refine Eq.mpr (if_pos rfl) ?_;(repeat first|apply wA|apply wB|apply wC|apply wE|(apply zM;·kernel_rfl)|refine zI rfl ?_|refine zJ rfl ?_)
    exact ⟨k+1,⟨⟨by omega,hgood.1,hgood.2⟩,by omega⟩,⟨rO rfl rfl rfl,rR rfl rfl rfl,rR rfl rfl rfl,rI rfl rfl,rI (i64_next h (by decide)) rfl,trivial⟩,(by repeat(first|exact trivial|refine ⟨rI rfl rfl,?_⟩|refine ⟨rO rfl rfl rfl,?_⟩|refine ⟨rR rfl rfl rfl,?_⟩|refine ⟨bR rfl rfl,?_⟩|refine ⟨bS rfl rfl rfl,?_⟩))⟩
  have h':j<lx.length:=by simpa using h4
  rw [List.drop_eq_getElem_cons h',addAll] at hf
  (repeat first|apply wA|apply wB|apply wC|apply wE|(apply zM;·kernel_rfl))
  refine AW.text ?_
  refine RG.opS rfl (op_index rfl (tab_ok ty_ok rfl) rfl (tab_ok ty_ok rfl) rfl rfl (show (lx.map cCb)[j]?=some (cCb lx[j]) by rw [List.getElem?_map,List.getElem?_eq_getElem (by assumption)];rfl) rfl) rfl ?_
  generalize lx[j]=p at hf
  refine wH rfl ?_;(repeat first|apply wA|apply wB|apply wC|apply wE|(apply zM;·kernel_rfl)|refine zI rfl ?_|refine zJ rfl ?_)
  by_cases hq:p∈acc
  · rw [addC_in hq] at hf
    refine RG.callS rfl rfl rfl rfl (congrArg (fun x=>[x,AV.agg (cCb p)]) (rowAll rfl)) (d_Contains_Cb p acc _ (decide_eq_true hq)) rfl rfl ?_;refine wH rfl ?_;(repeat first|apply wA|apply wB|apply wC|apply wE|(apply zM;·kernel_rfl)|refine zI rfl ?_|refine zJ rfl ?_)
    refine AW.condF rfl ?_;(repeat first|apply wA|apply wB|apply wC|apply wE|(apply zM;·kernel_rfl)|refine zI rfl ?_|refine zJ rfl ?_)
    exact ⟨(j+1,acc),⟨⟨⟨h',by show acc.length≤500+(j+1);omega⟩,hf⟩,by show lx.length - (j+1)<lx.length - j;omega⟩,⟨rO rfl rfl rfl,rR rfl rfl rfl,rR rfl rfl rfl,rI rfl rfl,rI rfl rfl,rI rfl rfl,rI rfl rfl,rI (i64_next h' hm) rfl,trivial⟩,(by repeat(first|exact trivial|refine ⟨rI rfl rfl,?_⟩|refine ⟨rO rfl rfl rfl,?_⟩|refine ⟨rR rfl rfl rfl,?_⟩|refine ⟨bR rfl rfl,?_⟩|refine ⟨bS rfl rfl rfl,?_⟩))⟩
  · rw [addC_out hq] at hf
    refine RG.callS rfl rfl rfl rfl (congrArg (fun x=>[x,AV.agg (cCb p)]) (rowAll rfl)) (d_Contains_Cb p acc _ (decide_eq_false hq)) rfl rfl ?_;refine wH rfl ?_;(repeat first|apply wA|apply wB|apply wC|apply wE|(apply zM;·kernel_rfl)|refine zI rfl ?_|refine zJ rfl ?_)
    refine AW.condT rfl ?_;(repeat first|apply wA|apply wB|apply wC|apply wE|(apply zM;·kernel_rfl))
    refine AW.text ?_
    refine wH rfl ?_
    refine RG.opS rfl (op_app1 cCb acc p (by omega) rfl rfl rfl rfl (tab_ok ty_ok rfl) rfl (tab_ok ty_ok rfl) rfl rfl ⟨_,rfl,rfl⟩ rfl rfl) rfl ?_;refine wH rfl ?_;(repeat first|apply wA|apply wB|apply wC|apply wE|(apply zM;·kernel_rfl)|refine zI rfl ?_|refine zJ rfl ?_)
    exact ⟨(j+1,acc++[p]),⟨⟨⟨h',by show (acc++[p]).length≤500+(j+1);rw [List.length_append,List.length_singleton];omega⟩,hf⟩,by show lx.length - (j+1)<lx.length - j;omega⟩,⟨rO rfl rfl rfl,rR rfl rfl rfl,rR rfl rfl rfl,rI rfl rfl,rI rfl rfl,rI rfl rfl,rI rfl rfl,rI (i64_next h' hm) rfl,trivial⟩,(by repeat(first|exact trivial|refine ⟨rI rfl rfl,?_⟩|refine ⟨rO rfl rfl rfl,?_⟩|refine ⟨rR rfl rfl rfl,?_⟩|refine ⟨bR rfl rfl,?_⟩|refine ⟨bS rfl rfl rfl,?_⟩))⟩
end Go.Proofs.YtahjjfhjjbgjaaaGreat.Sm
end
section
namespace Go.Proofs.YtahjjfhjjbgjaaaGreat.Sm
open Go.RowKit
theorem Rn.fnG {σ σ':Sto} {x:AV} {f:FuncId} {cs:List AV} (e:x = .fn f [.agg cs] []) (h1:cs.all AV.one=true) (h:cs.all AV.pu1=true):Rn σ σ' x (.fn f [.agg cs] []):=by
 subst e
 rw [List.all_eq_true] at h h1
 refine .fn rfl rfl (fun j x x' h2 h3=>?_) (fun j x x' h2=>by simp at h2)
 match j with
 | 0 =>
  obtain rfl:AV.agg cs=x:=by simpa using h2
  obtain rfl:AV.agg cs=x':=by simpa using h3
  exact .agg rfl (fun i y hy=>h1 y (List.mem_of_getElem? hy)) fun i y y' hy hy'=>by
   obtain rfl:y=y':=by rw [hy] at hy';exact Option.some.inj hy'
   exact .pu (h y (List.mem_of_getElem? hy))
 | j+1=>simp at h2
theorem d_bapart (c d:Cf) (hc:c.sound=0) (hd:d.sound=0) (hLc:LooksOk c) (hLd:LooksOk d) (V:Nat) (hV:V≤255) (s:Sp) (h1:s∈edges c.topo.ports) (h2:s∈edges d.topo.ports) (h:Hd):PDoes Tryz.prog 51 [.agg (cBo c d (V:Nat)),.agg (cSp s),.agg (cHd h)] (.b (!endEq (runOf c s h V 10800) (runOf d s h V 10800))):=by
 refine PDoes.of_bodyN Tryz.func51 rfl (by kernel_rfl) rfl rfl ?_
 have e1:=d_Run c hc hLc s h1 h V hV
 have e2:=d_Run d hd hLd s h2 h V hV
 generalize runOf c s h V 10800=x at e1
 generalize runOf d s h V 10800=y at e2
 (repeat first|apply wA|apply wB|apply wC|apply wE|(apply zM;·kernel_rfl)|refine zI rfl ?_|refine zJ rfl ?_)
 refine RG.callMS rfl rfl rfl rfl rfl rfl e1 rfl ?_;refine wH rfl ?_;(repeat first|apply wA|apply wB|apply wC|apply wE|(apply zM;·kernel_rfl)|refine zI rfl ?_|refine zJ rfl ?_)
 refine RG.callMS rfl rfl rfl rfl rfl rfl e2 rfl ?_;refine wH rfl ?_;(repeat first|apply wA|apply wB|apply wC|apply wE|(apply zM;·kernel_rfl)|refine zI rfl ?_|refine zJ rfl ?_)
 refine RG.callS rfl rfl rfl rfl rfl (d_dSame x y) rfl rfl ?_;refine wH rfl ?_;(repeat first|apply wA|apply wB|apply wC|apply wE|(apply zM;·kernel_rfl)|refine zI rfl ?_|refine zJ rfl ?_)
 refine AW.ret (retQA ty_ok rfl rfl rfl ?_)
 rfl
def findA (c d:Cf) (V:Nat) (s:Sp):List Atom→Option Hd
 | []=>none
 | a::l=>bif endEq (runOf c s a.head V 10800) (runOf d s a.head V 10800) then findA c d V s l else some a.head
def findE (c d:Cf) (V:Nat) (list:List Atom):List Sp→Sp × Hd × Bool × Int
 | []=>(Sp.zero,Hd.zero,false,0)
 | s::ss=>match findA c d V s list with
  | some h=>(s,h,true,0)
  | none=>findE c d V list ss
def findR (x:Sp × Hd × Bool × Int):AV:=.tup [.agg (cSp x.1),.agg (cHd x.2.1),.b x.2.2.1,.i .i64 x.2.2.2]
def findOf (c d:Cf) (V:Int) (l1 l2:List Cb):Sp × Hd × Bool × Int :=
 bif decide (rightE c d V=0) then (bif decide ((bothAt c d V l1 l2).2=0) then findE c d V.toNat (bothAt c d V l1 l2).1 (edges c.topo.ports) else (Sp.zero,Hd.zero,false,(bothAt c d V l1 l2).2)) else (Sp.zero,Hd.zero,false,rightE c d V)
theorem right_ok {c d:Cf} {V:Int} (h:rightE c d V=0):c.sound=0∧d.sound=0∧(∃v:Nat,V=v∧v≤255)∧c.topo.ports=d.topo.ports:=by
 rw [rightE] at h
 split at h
 ·rename_i h0
  split at h
  ·rename_i h1
   split at h
   ·cases h
   ·rename_i h2
    split at h
    ·rename_i h3
     exact ⟨h0,h1,⟨V.toNat,by omega,by omega⟩,h3⟩
    ·cases h
  ·rename_i h1;exact absurd h h1
 ·rename_i h0;exact absurd h h0
theorem d_Find28 (c d:Cf) (V:Int) (l1 l2:List Cb) (hLc:rightE c d V=0→LooksOk c) (hLd:rightE c d V=0→LooksOk d) (H1:rightE c d V=0→PDoes Tryz.prog 72 [.agg (cCf c),.i .i64 V] (ofR (askedOf c V) l1)) (H2:rightE c d V=0→PDoes Tryz.prog 72 [.agg (cCf d),.i .i64 V] (ofR (askedOf d V) l2)) (g1:l1.length=(askedOf c V).length) (g2:l2.length=(askedOf d V).length):PDoes Tryz.prog 20 [.agg (cCf c),.agg (cCf d),.i .i64 V] (findR (findOf c d V l1 l2)):=by
  refine PDoes.of_bodyN Tryz.func20 rfl (by kernel_rfl) rfl rfl ?_
  have hR:=d_bright c d V
  rw [findOf]
  by_cases e:rightE c d V=0
  rotate_left
  · rw [decide_eq_false e]
    (repeat first|apply wA|apply wB|apply wC|apply wE|(apply zM;·kernel_rfl)|refine zI rfl ?_|refine zJ rfl ?_)
    refine RG.callS rfl rfl rfl rfl rfl hR rfl rfl ?_;refine wH rfl ?_;(repeat first|apply wA|apply wB|apply wC|apply wE|(apply zM;·kernel_rfl)|refine zI rfl ?_|refine zJ rfl ?_)
    refine AW.cond rfl (fun k=>?_) (fun k=>?_)
    · (repeat first|apply wA|apply wB|apply wC|apply wE|(apply zM;·kernel_rfl)|refine zI rfl ?_|refine zJ rfl ?_)
      refine AW.ret (retQA ty_ok rfl rfl rfl ?_)
      rfl
    · exact absurd (by simpa using k) e
  have hA:=d_batoms c d V l1 l2 (H1 e) (H2 e) g1 g2
  replace hLc:=hLc e
  replace hLd:=hLd e
  obtain ⟨hc,hd,⟨v,rfl,hv⟩,hp⟩:=right_ok e
  rw [decide_eq_true e,cond_true,Int.toNat_natCast]
  rw [e] at hR
  have hok:=Cf.ok hc
  have hE:=edges_len hok.topo
  have hme:(edges c.topo.ports).length≤9223372036854775807:=by omega
  generalize bothAt c d v l1 l2=B at hA
  obtain ⟨list,er⟩:=B
  (repeat first|apply wA|apply wB|apply wC|apply wE|(apply zM;·kernel_rfl)|refine zI rfl ?_|refine zJ rfl ?_)
  refine RG.callS rfl rfl rfl rfl rfl hR rfl rfl ?_;refine wH rfl ?_;(repeat first|apply wA|apply wB|apply wC|apply wE|(apply zM;·kernel_rfl)|refine zI rfl ?_|refine zJ rfl ?_)
  refine AW.condF rfl ?_;(repeat first|apply wA|apply wB|apply wC|apply wE|(apply zM;·kernel_rfl)|refine zI rfl ?_|refine zJ rfl ?_)
  refine RG.callMS rfl rfl rfl rfl rfl rfl hA rfl ?_;refine wH rfl ?_;(repeat first|apply wA|apply wB|apply wC|apply wE|(apply zM;·kernel_rfl)|refine zI rfl ?_|refine zJ rfl ?_)
  refine AW.cond rfl (fun k=>?_) (fun k=>?_)
  · have k:¬er=0:=by simpa using k
    rw [decide_eq_false k]
    (repeat first|apply wA|apply wB|apply wC|apply wE|(apply zM;·kernel_rfl)|refine zI rfl ?_|refine zJ rfl ?_)
    refine AW.ret (retQA ty_ok rfl rfl rfl ?_)
    rfl
  have k:er=0:=by simpa using k
  subst k
  rw [decide_eq_true (rfl:(list,(0:Int)).2=0),cond_true]
  (repeat first|apply wA|apply wB|apply wC|apply wE|(apply zM;·kernel_rfl)|refine zI rfl ?_|refine zJ rfl ?_)
  refine RG.callMS rfl rfl rfl rfl rfl rfl (d_Edges c.topo.ports hok.topo) rfl ?_;refine wH rfl ?_;(repeat first|apply wA|apply wB|apply wC|apply wE|(apply zM;·kernel_rfl)|refine zI rfl ?_|refine zJ rfl ?_)
  refine AW.lens 12 rfl fun hml=>?_
  rw [List.length_map] at hml
  simp only at hml
  generalize hG:findE c d v (list,(0:Int)).1 (edges c.topo.ports)=G
  simp only at hG
  refine AW.loopL (ι:=Nat) (fun k=>[(6,.own 6 0 0),(7,.own 7 0 0),(12,.sl (list.map cAtom)),(14,.fn 51 [.agg (cBo c d (v:Nat))] []),(44,.sl ((edges c.topo.ports).map cSp)),(45,.i .i64 ((edges c.topo.ports).map cSp).length),(46,.i .i64 (k:Nat))]) (fun _=>[(6,⟨0,some (.box 33 (cSp Sp.zero))⟩),(7,⟨0,some (.box 36 (cHd Hd.zero))⟩)]) (fun k=>k≤(edges c.topo.ports).length∧findE c d v list ((edges c.topo.ports).drop k)=G) (fun k=>(edges c.topo.ports).length - k) 0 ⟨Nat.zero_le _,hG⟩ ⟨rO rfl rfl rfl,rO rfl rfl rfl,rI rfl rfl,Rn.fnG rfl rfl rfl,rI rfl rfl,rI rfl rfl,rI rfl rfl,trivial⟩ (by repeat(first|exact trivial|refine ⟨rI rfl rfl,?_⟩|refine ⟨rO rfl rfl rfl,?_⟩|refine ⟨rR rfl rfl rfl,?_⟩|refine ⟨bR rfl rfl,?_⟩|refine ⟨bS rfl rfl rfl,?_⟩)) fun k hk=>?_
  clear hG
  obtain ⟨hk,hf⟩:=hk
  (repeat first|apply wA|apply wB|apply wC|apply wE|(apply zM;·kernel_rfl)|refine zI rfl ?_|refine zJ rfl ?_)
  refine AW.cond rfl (fun h2=>?_) (fun h2=>?_)
  rotate_left
  · have h:¬k<(edges c.topo.ports).length:=by simpa using h2
    obtain rfl:k=(edges c.topo.ports).length:=by omega
    rw [List.drop_length,findE] at hf
    (repeat first|apply wA|apply wB|apply wC|apply wE|(apply zM;·kernel_rfl)|refine zI rfl ?_|refine zJ rfl ?_)
    refine AW.exit ?_;refine Eq.mpr (if_pos rfl) ?_;(repeat first|apply wA|apply wB|apply wC|apply wE|(apply zM;·kernel_rfl)|refine zI rfl ?_|refine zJ rfl ?_)
    refine AW.ret (retQA ty_ok rfl rfl rfl ?_)
    rw [← hf]
    rfl
  have h:k<(edges c.topo.ports).length:=by simpa using h2
  have hs:=List.getElem_mem h
  rw [List.drop_eq_getElem_cons h,findE] at hf
  (repeat first|apply wA|apply wB|apply wC|apply wE|(apply zM;·kernel_rfl))
  refine AW.text ?_
  refine RG.opS rfl (op_index rfl (tab_ok ty_ok rfl) rfl (tab_ok ty_ok rfl) rfl rfl (show ((edges c.topo.ports).map cSp)[k]?=some (cSp (edges c.topo.ports)[k]) by rw [List.getElem?_map,List.getElem?_eq_getElem (by assumption)];rfl) rfl) rfl ?_
  generalize (edges c.topo.ports)[k]=s at hf hs
  have hs2:s∈edges d.topo.ports:=by rw [← hp];exact hs
  refine wH rfl ?_;(repeat first|apply wA|apply wB|apply wC|apply wE|(apply zM;·kernel_rfl)|refine zI rfl ?_|refine zJ rfl ?_)
  refine AW.loopL (ι:=Nat) (fun j=>[(6,.own 6 0 0),(7,.own 7 0 0),(12,.sl (list.map cAtom)),(14,.fn 51 [.agg (cBo c d (v:Nat))] []),(44,.sl ((edges c.topo.ports).map cSp)),(45,.i .i64 ((edges c.topo.ports).map cSp).length),(46,.i .i64 (k:Nat)),(16,.own 16 0 0),(50,.sl (list.map cAtom)),(51,.i .i64 (list.map cAtom).length),(52,.i .i64 (j:Nat))]) (fun _=>[(6,⟨0,some (.box 33 (cSp Sp.zero))⟩),(7,⟨0,some (.box 36 (cHd Hd.zero))⟩),(16,⟨0,some (.box 33 (cSp s))⟩)]) (fun j=>j≤list.length∧(match findA c d v s (list.drop j) with | some h=>(s,h,true,0) | none=>findE c d v list ((edges c.topo.ports).drop (k+1)))=G) (fun j=>list.length - j) 0 ⟨Nat.zero_le _,hf⟩ ⟨rO rfl rfl rfl,rO rfl rfl rfl,rI rfl rfl,Rn.fnG rfl rfl rfl,rI rfl rfl,rI rfl rfl,rI rfl rfl,rO rfl rfl rfl,rI rfl rfl,rI rfl rfl,rI rfl rfl,trivial⟩ (by repeat(first|exact trivial|refine ⟨rI rfl rfl,?_⟩|refine ⟨rO rfl rfl rfl,?_⟩|refine ⟨rR rfl rfl rfl,?_⟩|refine ⟨bR rfl rfl,?_⟩|refine ⟨bS rfl rfl rfl,?_⟩)) fun j hj=>?_
  clear hf
  obtain ⟨hj,hf⟩:=hj
  (repeat first|apply wA|apply wB|apply wC|apply wE|(apply zM;·kernel_rfl)|refine zI rfl ?_|refine zJ rfl ?_)
  refine AW.cond rfl (fun h3=>?_) (fun h3=>?_)
  rotate_left
  · have h':¬j<list.length:=by simpa using h3
    obtain rfl:j=list.length:=by omega
    rw [List.drop_length,findA] at hf
    (repeat first|apply wA|apply wB|apply wC|apply wE|(apply zM;·kernel_rfl)|refine zI rfl ?_|refine zJ rfl ?_)
    refine AW.exit ?_;refine Eq.mpr (if_pos rfl) ?_;(repeat first|apply wA|apply wB|apply wC|apply wE|(apply zM;·kernel_rfl)|refine zI rfl ?_|refine zJ rfl ?_)
    exact ⟨k+1,⟨⟨h,hf⟩,by omega⟩,⟨rO rfl rfl rfl,rO rfl rfl rfl,rI rfl rfl,Rn.fnG rfl rfl rfl,rI rfl rfl,rI rfl rfl,rI (i64_next h hme) rfl,trivial⟩,(by repeat(first|exact trivial|refine ⟨rI rfl rfl,?_⟩|refine ⟨rO rfl rfl rfl,?_⟩|refine ⟨rR rfl rfl rfl,?_⟩|refine ⟨bR rfl rfl,?_⟩|refine ⟨bS rfl rfl rfl,?_⟩))⟩
  have h':j<list.length:=by simpa using h3
  rw [List.drop_eq_getElem_cons h',findA] at hf
  (repeat first|apply wA|apply wB|apply wC|apply wE|(apply zM;·kernel_rfl))
  refine AW.text ?_
  refine RG.opS rfl (op_index rfl (tab_ok ty_ok rfl) rfl (tab_ok ty_ok rfl) rfl rfl (show (list.map cAtom)[j]?=some (cAtom list[j]) by rw [List.getElem?_map,List.getElem?_eq_getElem (by assumption)];rfl) rfl) rfl ?_
  generalize list[j]=a at hf
  have hQ:=d_bapart c d hc hd hLc hLd v hv s hs hs2 a.head
  refine wH rfl ?_;(repeat first|apply wA|apply wB|apply wC|apply wE|(apply zM;·kernel_rfl)|refine zI rfl ?_|refine zJ rfl ?_)
  cases hq:endEq (runOf c s a.head v 10800) (runOf d s a.head v 10800)
  · rw [hq,cond_false] at hf
    rw [hq] at hQ
    refine RG.callS rfl rfl rfl rfl rfl hQ rfl rfl ?_;refine wH rfl ?_;(repeat first|apply wA|apply wB|apply wC|apply wE|(apply zM;·kernel_rfl)|refine zI rfl ?_|refine zJ rfl ?_)
    refine AW.condT rfl ?_;(repeat first|apply wA|apply wB|apply wC|apply wE|(apply zM;·kernel_rfl)|refine zI rfl ?_|refine zJ rfl ?_)
    refine AW.ret (retQA ty_ok rfl rfl rfl ?_)
    rw [← hf]
    rfl
  · rw [hq,cond_true] at hf
    rw [hq] at hQ
    refine RG.callS rfl rfl rfl rfl rfl hQ rfl rfl ?_;refine wH rfl ?_;(repeat first|apply wA|apply wB|apply wC|apply wE|(apply zM;·kernel_rfl)|refine zI rfl ?_|refine zJ rfl ?_)
    refine AW.condF rfl ?_;(repeat first|apply wA|apply wB|apply wC|apply wE|(apply zM;·kernel_rfl)|refine zI rfl ?_|refine zJ rfl ?_)
    exact ⟨j+1,⟨⟨h',hf⟩,by omega⟩,⟨rO rfl rfl rfl,rO rfl rfl rfl,rI rfl rfl,Rn.fnG rfl rfl rfl,rI rfl rfl,rI rfl rfl,rI rfl rfl,rO rfl rfl rfl,rI rfl rfl,rI rfl rfl,rI (i64_next h' hml) rfl,trivial⟩,(by repeat(first|exact trivial|refine ⟨rI rfl rfl,?_⟩|refine ⟨rO rfl rfl rfl,?_⟩|refine ⟨rR rfl rfl rfl,?_⟩|refine ⟨bR rfl rfl,?_⟩|refine ⟨bS rfl rfl rfl,?_⟩))⟩
def lineD:Cf:=⟨⟨lnPorts⟩,⟨1,[],[]⟩,[[lnR0],[[⟨1,lnCube,⟨1,0,0,Cb.zero⟩⟩,lnDrop]]]⟩
theorem fallsD:Falls [⟨1,lnCube,⟨1,0,0,Cb.zero⟩⟩,lnDrop]:=by
 intro k x y hx hy
 match k with
 | 0 =>
  obtain rfl:=Option.some.inj hx
  obtain rfl:=Option.some.inj hy
  decide
 | k+1=>simp at hy
theorem lineD_looks:LooksOk lineD:=looks_of (by
 intro tb htb l hl
 simp only [lineD,List.mem_cons,List.not_mem_nil,or_false] at htb
 rcases htb with rfl | rfl
 ·simp only [List.mem_cons,List.not_mem_nil,or_false] at hl
  subst hl
  exact ⟨falls0,by decide⟩
 ·simp only [List.mem_cons,List.not_mem_nil,or_false] at hl
  subst hl
  exact ⟨fallsD,by decide⟩)
theorem d_OfC (c:Cf) (V:Nat) (hV:V≤255) (h0:c.sound=0) (hs:c.tables.all (fun t=>Nat.ble t.flatten.length 1000)=true) (hl:Nat.blt (askedOf c (V:Nat)).length 20=true):PDoes Tryz.prog 72 [.agg (cCf c),.i .i64 (V:Nat)] (ofR (askedOf c (V:Nat)) (insS (askedOf c (V:Nat)))) :=
 d_Of c h0 (small_of hs) V hV _ (insS_perm _) fun _=>sort_few _ (Nat.le_of_ble_eq_true hl)
theorem d_awake28:PDoes Tryz.prog 22 [] (.b true):=by
 refine PDoes.of_bodyN Tryz.func22 rfl (by kernel_rfl) rfl rfl ?_
 have oC:=d_OfC lineC 0 (by decide) (by kernel_rfl) (by kernel_rfl) (by kernel_rfl)
 have oD:=d_OfC lineD 0 (by decide) (by kernel_rfl) (by kernel_rfl) (by kernel_rfl)
 have f1:=d_Find28 lineC lineC ((0:Nat):Int) _ _ (fun _=>lineC_looks) (fun _=>lineC_looks) (fun _=>oC) (fun _=>oC) (insS_perm _).length_eq (insS_perm _).length_eq
 have f2:=d_Find28 lineC lineD ((0:Nat):Int) _ _ (fun _=>lineC_looks) (fun _=>lineD_looks) (fun _=>oC) (fun _=>oD) (insS_perm _).length_eq (insS_perm _).length_eq
 have e1:findOf lineC lineC ((0:Nat):Int) (insS (askedOf lineC ((0:Nat):Int))) (insS (askedOf lineC ((0:Nat):Int)))=(Sp.zero,Hd.zero,false,0):=by kernel_rfl
 have e2:findOf lineC lineD ((0:Nat):Int) (insS (askedOf lineC ((0:Nat):Int))) (insS (askedOf lineD ((0:Nat):Int)))=(Sp.zero,(findOf lineC lineD ((0:Nat):Int) (insS (askedOf lineC ((0:Nat):Int))) (insS (askedOf lineD ((0:Nat):Int)))).2.1,true,0):=by kernel_rfl
 have e3:(findOf lineC lineD ((0:Nat):Int) (insS (askedOf lineC ((0:Nat):Int))) (insS (askedOf lineD ((0:Nat):Int)))).2.1.lo &&& UInt64.ofNat 1=UInt64.ofNat 1:=by kernel_rfl
 rw [e1] at f1
 rw [e2] at f2
 generalize (findOf lineC lineD ((0:Nat):Int) (insS (askedOf lineC ((0:Nat):Int))) (insS (askedOf lineD ((0:Nat):Int)))).2.1=h at f2 e3
 clear e1 e2 oC oD
 (repeat first|apply wA|apply wB|apply wC|apply wE|(apply zM;·kernel_rfl)|refine zI rfl ?_|refine zJ rfl ?_)
 refine RG.ownN [] [(300,310),(301,311),(302,312),(24,324),(30,330),(12,313)] m_line28 rfl rfl rfl rfl rfl rfl rfl rfl rfl rfl ?_
 refine wH rfl ?_
 refine RG.ownN [] [(300,410),(301,411),(302,412),(24,424),(30,430),(12,413)] m_line28 rfl rfl rfl rfl rfl rfl rfl rfl rfl rfl ?_
 refine wH rfl ?_;(repeat first|apply wA|apply wB|apply wC|apply wE|(apply zM;·kernel_rfl)|refine zI rfl ?_|refine zJ rfl ?_)
 refine RG.callS rfl rfl rfl rfl rfl f1 rfl rfl ?_;refine wH rfl ?_;(repeat first|apply wA|apply wB|apply wC|apply wE|(apply zM;·kernel_rfl)|refine zI rfl ?_|refine zJ rfl ?_)
 refine RG.opS rfl (op_indexRef 1 rfl (tab_ok ty_ok rfl) rfl (tab_ok ty_ok rfl) rfl rfl rfl rfl (by decide)) rfl ?_
 refine wH rfl ?_
 refine RG.opS rfl (op_indexRef 0 rfl (tab_ok ty_ok rfl) rfl (tab_ok ty_ok rfl) rfl rfl rfl rfl (by decide)) rfl ?_
 refine wH rfl ?_
 refine RG.opS rfl (op_indexR0 0 cRl lnR1 (by decide) rfl (tab_ok ty_ok rfl) rfl (tab_ok ty_ok rfl) rfl rfl rfl) rfl ?_
 refine wH rfl ?_
 refine RG.opS rfl (op_fieldAddr rfl (tab_ok ty_ok rfl) rfl rfl (tab_ok ty_ok rfl) rfl (.el rfl rfl) rfl) rfl ?_
 refine RG.opS rfl (op_storeE (k:=0) (j:=5) (cs:=cRl ⟨1,lnCube,⟨2,1,0,Cb.zero⟩⟩) (ns:=cAc ⟨1,0,0,Cb.zero⟩) rfl (tab_ok ty_ok rfl) rfl rfl rfl rfl rfl rfl (by rfl) (Nat.le_of_ble_eq_true (by rfl))) rfl ?_
 refine wH rfl ?_;(repeat first|apply wA|apply wB|apply wC|apply wE|(apply zM;·kernel_rfl)|refine zI rfl ?_|refine zJ rfl ?_)
 refine RG.callS rfl rfl rfl rfl rfl f2 rfl rfl ?_;refine wH rfl ?_;(repeat first|apply wA|apply wB|apply wC|apply wE|(apply zM;·kernel_rfl)|refine zI rfl ?_|refine zJ rfl ?_)
 refine RG.opS rfl (op_eqG rfl ty_ok (by kernel_rfl) (by kernel_rfl) rfl rfl (eq_Sp Sp.zero Sp.zero) (decide_eq_true rfl)) rfl ?_
 refine RG.runO ty_ok 0 [(60,.b true)] 400 rfl (by repeat' (first|exact trivial|apply And.intro|exact dT ‹_›|exact dF ‹_›|exact dN ‹_›|exact dM ‹_›|exact dI ‹_›)) ?_
 refine wH rfl ?_
 refine RG.opS rfl (op_makeSlice 1 (id:=64) rfl (tab_ok ty_ok rfl) rfl (tab_ok ty_ok rfl) (by decide) (by decide) (by decide)) rfl ?_
 refine wH rfl ?_
 refine RG.callS rfl rfl rfl rfl rfl (d_dSame ⟨1,⟨0,0⟩,[]⟩ ⟨1,⟨0,0⟩,[Hop.zero]⟩) rfl rfl ?_;refine wH rfl ?_;(repeat first|apply wA|apply wB|apply wC|apply wE|(apply zM;·kernel_rfl)|refine zI rfl ?_|refine zJ rfl ?_)
 refine AW.ret (retQA ty_ok rfl rfl rfl ?_)
 rfl
end Go.Proofs.YtahjjfhjjbgjaaaGreat.Sm
end
section
namespace Go.Proofs.YtahjjfhjjbgjaaaGreat.Sm
open Go.RowKit
theorem d_OfG (c:Cf) (V:Nat) (hV:V≤255) (h0:c.sound=0) (hL:c.Lens):PDoes Tryz.prog 72 [.agg (cCf c),.i .i64 (V:Nat)] (ofR (askedOf c (V:Nat)) (sortG (askedOf c (V:Nat)))) :=
 d_Of c h0 (Cf.small h0 hL) V hV _ (sortG_perm _) fun h=>sort_any _ (by omega)
def findG (c d:Cf) (V:Int):Sp × Hd × Bool × Int:=findOf c d V (sortG (askedOf c V)) (sortG (askedOf d V))
theorem d_FindG (c d:Cf) (V:Int) (hLc:c.Lens) (hLd:d.Lens):PDoes Tryz.prog 20 [.agg (cCf c),.agg (cCf d),.i .i64 V] (findR (findG c d V)) :=
 d_Find28 c d V _ _ (fun e=>looks_any (right_ok e).1 hLc) (fun e=>looks_any (right_ok e).2.1 hLd)
  (fun e=>by
   obtain ⟨hc,hd,⟨v,rfl,hv⟩,hp⟩:=right_ok e
   exact d_OfG c v hv hc hLc)
  (fun e=>by
   obtain ⟨hc,hd,⟨v,rfl,hv⟩,hp⟩:=right_ok e
   exact d_OfG d v hv hd hLd) (sortG_perm _).length_eq (sortG_perm _).length_eq
end Go.Proofs.YtahjjfhjjbgjaaaGreat.Sm
end
section
namespace Go.Proofs.YtahjjfhjjbgjaaaGreat.Sm
open Go.RowKit
theorem findA_cases (c d:Cf) (V:Nat) (s:Sp):∀(l:List Atom),(findA c d V s l=none∧∀a∈l,endEq (runOf c s a.head V 10800) (runOf d s a.head V 10800)=true) ∨
  ∃a∈l,endEq (runOf c s a.head V 10800) (runOf d s a.head V 10800)=false∧findA c d V s l=some a.head
 | []=>.inl ⟨rfl,fun a ha=>by cases ha⟩
 | a::l=>by
  rw [findA]
  cases h:endEq (runOf c s a.head V 10800) (runOf d s a.head V 10800)
  ·exact .inr ⟨a,List.mem_cons_self,h,rfl⟩
  ·rw [cond_true]
   rcases findA_cases c d V s l with ⟨h1,h2⟩ | ⟨b,hb,h1,h2⟩
   ·refine .inl ⟨h1,fun b hb=>?_⟩
    rcases List.mem_cons.1 hb with rfl | hb
    ·exact h
    ·exact h2 b hb
   ·exact .inr ⟨b,List.mem_cons_of_mem _ hb,h1,h2⟩
theorem findE_cases (c d:Cf) (V:Nat) (l:List Atom):∀(ss:List Sp),(findE c d V l ss=(Sp.zero,Hd.zero,false,0)∧∀s∈ss,∀a∈l,endEq (runOf c s a.head V 10800) (runOf d s a.head V 10800)=true) ∨
  ∃s∈ss,∃a∈l,endEq (runOf c s a.head V 10800) (runOf d s a.head V 10800)=false∧findE c d V l ss=(s,a.head,true,0)
 | []=>.inl ⟨rfl,fun s hs=>by cases hs⟩
 | s::ss=>by
  rw [findE]
  rcases findA_cases c d V s l with ⟨h1,h2⟩ | ⟨a,ha,h1,h2⟩
  ·rw [h1]
   rcases findE_cases c d V l ss with ⟨h3,h4⟩ | ⟨s',hs',a,ha,h3,h4⟩
   ·refine .inl ⟨h3,fun s' hs'=>?_⟩
    rcases List.mem_cons.1 hs' with rfl | hs'
    ·exact h2
    ·exact h4 s' hs'
   ·exact .inr ⟨s',List.mem_cons_of_mem _ hs',a,ha,h3,h4⟩
  ·rw [h2]
   exact .inr ⟨s,List.mem_cons_self,a,ha,h1,rfl⟩
theorem findG_bad {c d:Cf} {V:Int} (h:rightE c d V≠0):findG c d V=(Sp.zero,Hd.zero,false,rightE c d V):=by
 rw [findG,findOf,decide_eq_false h];rfl
theorem endEq_alike {a a' b b':Run} (h1:a.Alike a') (h2:b.Alike b'):endEq a b=endEq a' b':=by
 rw [endEq,endEq,h1.fin,h1.at_,h2.fin,h2.at_]
theorem endEq_comm (a b:Run):endEq a b=endEq b a:=by
 rw [endEq,endEq,decide_eq_decide.2 (show a.fin=b.fin↔b.fin=a.fin from ⟨Eq.symm,Eq.symm⟩),decide_eq_decide.2 (show a.at_=b.at_↔b.at_=a.at_ from ⟨Eq.symm,Eq.symm⟩)]
theorem endEq_self (a:Run):endEq a a=true:=by
 rw [endEq,decide_eq_true rfl,decide_eq_true rfl];rfl
theorem findG_cases (c d:Cf) (v:Nat) (h0:rightE c d v=0):(∃e:Int,(e=10∨e=11∨e=6)∧findG c d v=(Sp.zero,Hd.zero,false,e)) ∨
  (findG c d v=(Sp.zero,Hd.zero,false,0)∧∀s∈edges c.topo.ports,∀h,endEq (runOf c s h v 10800) (runOf d s h v 10800)=true) ∨
  (∃s h,s∈edges c.topo.ports∧endEq (runOf c s h v 10800) (runOf d s h v 10800)=false∧findG c d v=(s,h,true,0)):=by
 obtain ⟨hsc,hsd,-,hpe⟩:=right_ok h0
 have hc:=Cf.ok hsc
 have hd:=Cf.ok hsd
 obtain ⟨hsndc,haskc⟩:=askedOf_ok hc (v:Int)
 obtain ⟨hsndd,haskd⟩:=askedOf_ok hd (v:Int)
 have hpc:=sortG_perm (askedOf c (v:Int))
 have hpd:=sortG_perm (askedOf d (v:Int))
 rw [findG,findOf,decide_eq_true h0,cond_true,bothAt]
 by_cases h1:(askedOf c (v:Int)).length>500
 ·rw [decide_eq_true h1,cond_true]
  exact .inl ⟨10,.inl rfl,rfl⟩
 by_cases h1':(askedOf d (v:Int)).length>500
 ·rw [decide_eq_true h1',decide_eq_false h1,cond_true,cond_false]
  exact .inl ⟨10,.inl rfl,rfl⟩
 rw [decide_eq_false h1,decide_eq_false h1',cond_false,cond_false]
 have hAc:=haskc (by omega)
 have hAd:=haskd (by omega)
 generalize askedOf c (v:Int)=pc at hsndc hpc h1 hAc
 generalize askedOf d (v:Int)=pd at hsndd hpd h1' hAd
 generalize sortG pc=lc at hpc
 generalize sortG pd=ld at hpd
 have hmem:∀y,y∈addAll (addAll [] lc) ld↔y∈pc∨y∈pd:=by
  intro y
  rw [addAll_mem,addAll_mem,hpc.mem_iff,hpd.mem_iff]
  simp
 generalize addAll (addAll [] lc) ld=ps at hmem
 by_cases h5:ps.length>500
 ·rw [atomsOf,decide_eq_true h5,cond_true]
  exact .inl ⟨6,.inr (.inr rfl),rfl⟩
 obtain ⟨g1,g2⟩:=atomsOf_ok (ps:=ps) (fun x hx=>by
  rcases (hmem x).1 hx with h | h
  ·exact hsndc x h
  ·exact hsndd x h) (by omega)
 by_cases h2:(atomsOf ps).2=0
 rotate_left
 ·rw [decide_eq_false h2,cond_false]
  rcases g1 with g | g | g
  ·exact absurd g h2
  ·rw [g];exact .inl ⟨10,.inl rfl,rfl⟩
  ·rw [g];exact .inl ⟨11,.inr (.inl rfl),rfl⟩
 rw [decide_eq_true h2,cond_true]
 have hP:=g2 h2
 generalize (atomsOf ps).1=list at hP
 rw [Int.toNat_natCast]
 rcases findE_cases c d v list (edges c.topo.ports) with ⟨h3,h4⟩ | ⟨s,hs,a,ha,h3,h4⟩
 ·refine .inr (.inl ⟨h3,fun s hs h=>?_⟩)
  obtain ⟨a,ha,hh⟩:=hP.all h
  have hlike:∀p∈ps,p.has h=p.has a.head:=fun p hp=>hP.like a ha h a.head hh (hP.head a ha) p hp
  rw [endEq_alike (runOf_alike hc hAc hs (fun p hp=>hlike p ((hmem p).2 (.inl hp))) 10800) (runOf_alike hd hAd (hpe ▸ hs) (fun p hp=>hlike p ((hmem p).2 (.inr hp))) 10800)]
  exact h4 s hs a ha
 ·exact .inr (.inr ⟨s,a.head,hs,h3,h4⟩)
end Go.Proofs.YtahjjfhjjbgjaaaGreat.Sm
end
section
namespace Go.Proofs.YtahjjfhjjbgjaaaGreat.Sm
open Go.RowKit
theorem findG_right {c d:Cf} {V:Int} (h:(findG c d V).2.2.2=0):rightE c d V=0:=by
 by_cases h0:rightE c d V=0
 ·exact h0
 ·rw [findG_bad h0] at h;exact h
theorem findG_self (c:Cf) (v:Nat):(findG c c v).2.2.1=false:=by
 by_cases h0:rightE c c v=0
 ·rcases findG_cases c c v h0 with ⟨e,he,hj⟩ | ⟨hj,hall⟩ | ⟨s',h',hs',hw,hj⟩
  ·rw [hj]
  ·rw [hj]
  ·rw [endEq_self] at hw;cases hw
 ·rw [findG_bad h0]
theorem findG_comm (c d:Cf) (v:Nat) (hf:(findG c d v).2.2.2=0) (hg:(findG d c v).2.2.2=0):(findG c d v).2.2.1=(findG d c v).2.2.1:=by
 have h0:=findG_right hf
 have h1:=findG_right hg
 obtain ⟨-,-,-,hp⟩:=right_ok h0
 rcases findG_cases c d v h0 with ⟨e,he,hj⟩ | ⟨hj,hall⟩ | ⟨s',h',hs',hw,hj⟩
 ·rw [hj] at hf
  have hf:e=0:=hf
  omega
 ·rcases findG_cases d c v h1 with ⟨e,he,hk⟩ | ⟨hk,hall'⟩ | ⟨s',h',hs',hw,hk⟩
  ·rw [hj,hk]
  ·rw [hj,hk]
  ·rw [endEq_comm,hall s' (hp ▸ hs') h'] at hw;cases hw
 ·rcases findG_cases d c v h1 with ⟨e,he,hk⟩ | ⟨hk,hall'⟩ | ⟨s'',h'',hs'',hw',hk⟩
  ·rw [hk] at hg
   have hg:e=0:=hg
   omega
  ·rw [endEq_comm,hall' s' (hp ▸ hs') h'] at hw;cases hw
  ·rw [hj,hk]
theorem DifferSelf_d (c d:Cf) (vb:UInt8) (hLc:c.Lens) (hLd:d.Lens):PDoes Tryz.prog 5 [.agg (cCf c),.agg (cCf d),.y vb] (.b true):=by
  refine PDoes.of_bodyN Tryz.func5 rfl (by kernel_rfl) rfl rfl ?_
  have hv:vb.toNat≤255:=by have:=UInt8.toNat_lt vb;omega
  have wv:IntKind.i64.wrap ((vb.toNat:Nat):Int)=((vb.toNat:Nat):Int):=by rw [IntKind.wrap_i64];omega
  have hF1:=d_FindG c c ((vb.toNat:Nat):Int) hLc hLc
  have hF2:=d_FindG c d ((vb.toNat:Nat):Int) hLc hLd
  have hF3:=d_FindG d c ((vb.toNat:Nat):Int) hLd hLc
  have hA:=findG_self c vb.toNat
  have hB:=fun h=>(right_ok (findG_right (c:=c) (d:=d) (V:=((vb.toNat:Nat):Int)) h)).1
  have hC:=findG_comm c d vb.toNat
  have hS:=d_rCSound c
  generalize findG c c ((vb.toNat:Nat):Int)=r1 at hF1 hA
  generalize findG c d ((vb.toNat:Nat):Int)=r2 at hF2 hB hC
  generalize findG d c ((vb.toNat:Nat):Int)=r3 at hF3 hC
  obtain ⟨s1,h1,X1,e⟩:=r1
  obtain ⟨s2,h2,X,f⟩:=r2
  obtain ⟨s3,h3,Y,g⟩:=r3
  simp only [findR] at hF1 hF2 hF3 hA hB hC
  subst hA
  (repeat first|apply wA|apply wB|apply wC|apply wE|(apply zM;·kernel_rfl));refine wF ?_;refine wH rfl ?_;(repeat first|apply wA|apply wB|apply wC|apply wE|(apply zM;·kernel_rfl))
  refine AW.text ?_
  refine RG.runO ty_ok 0 [(23,.i .i64 ((vb.toNat:Nat):Int))] 400 rfl (by repeat' (first|exact trivial|apply And.intro|exact dT ‹_›|exact dF ‹_›|exact dN ‹_›|exact dM ‹_›|exact dI ‹_›)) ?_
  refine RG.callS rfl rfl rfl rfl rfl hF1 rfl rfl ?_
  refine wH rfl ?_;(repeat first|apply wA|apply wB|apply wC|apply wE|(apply zM;·kernel_rfl))
  refine AW.text ?_
  refine RG.runO ty_ok 0 [(33,.i .i64 ((vb.toNat:Nat):Int))] 400 rfl (by repeat' (first|exact trivial|apply And.intro|exact dT ‹_›|exact dF ‹_›|exact dN ‹_›|exact dM ‹_›|exact dI ‹_›)) ?_
  refine RG.callS rfl rfl rfl rfl rfl hF2 rfl rfl ?_
  refine wH rfl ?_;(repeat first|apply wA|apply wB|apply wC|apply wE|(apply zM;·kernel_rfl))
  refine AW.text ?_
  refine RG.runO ty_ok 0 [(43,.i .i64 ((vb.toNat:Nat):Int))] 400 rfl (by repeat' (first|exact trivial|apply And.intro|exact dT ‹_›|exact dF ‹_›|exact dN ‹_›|exact dM ‹_›|exact dI ‹_›)) ?_
  refine RG.callS rfl rfl rfl rfl rfl hF3 rfl rfl ?_;refine wH rfl ?_;(repeat first|apply wA|apply wB|apply wC|apply wE|(apply zM;·kernel_rfl)|refine zI rfl ?_|refine zJ rfl ?_)
  refine RG.callS rfl rfl rfl rfl rfl d_awake28 rfl rfl ?_
  by_cases ge:e=0
  · by_cases gf:f=0
    · by_cases gg:g=0
      · obtain rfl:X=Y:=hC gf gg
        have hX:X=X:=rfl
        refine RG.runO ty_ok 0 [(56,.b true),(69,.b false),(72,.b false),(77,.b true)] 400 rfl (by repeat' (first|exact trivial|apply And.intro|exact dT ‹_›|exact dF ‹_›|exact dN ‹_›|exact dM ‹_›|exact dI ‹_›)) ?_
        (repeat first|apply wA|apply wB|apply wC|apply wE|(apply zM;·kernel_rfl))
        refine AW.ret (retQA ty_ok rfl rfl rfl ?_)
        rfl
      · refine RG.runO ty_ok 0 [(56,.b true),(69,.b false),(72,.b true)] 400 rfl (by repeat' (first|exact trivial|apply And.intro|exact dT ‹_›|exact dF ‹_›|exact dN ‹_›|exact dM ‹_›|exact dI ‹_›)) ?_
        (repeat first|apply wA|apply wB|apply wC|apply wE|(apply zM;·kernel_rfl))
        refine AW.ret (retQA ty_ok rfl rfl rfl ?_)
        rfl
    · refine RG.runO ty_ok 0 [(56,.b true),(69,.b true)] 400 rfl (by repeat' (first|exact trivial|apply And.intro|exact dT ‹_›|exact dF ‹_›|exact dN ‹_›|exact dM ‹_›|exact dI ‹_›)) ?_
      (repeat first|apply wA|apply wB|apply wC|apply wE|(apply zM;·kernel_rfl))
      refine AW.ret (retQA ty_ok rfl rfl rfl ?_)
      rfl
  · by_cases gf:f=0
    · rw [hB gf] at hS
      refine RG.runO ty_ok 0 [(56,.b false),(59,.b false)] 400 rfl (by repeat' (first|exact trivial|apply And.intro|exact dT ‹_›|exact dF ‹_›|exact dN ‹_›|exact dM ‹_›|exact dI ‹_›)) ?_
      refine RG.callS rfl rfl rfl rfl rfl hS rfl rfl ?_
      by_cases gg:g=0
      · obtain rfl:X=Y:=hC gf gg
        have hX:X=X:=rfl
        refine RG.runO ty_ok 0 [(69,.b false),(72,.b false),(77,.b true)] 400 rfl (by repeat' (first|exact trivial|apply And.intro|exact dT ‹_›|exact dF ‹_›|exact dN ‹_›|exact dM ‹_›|exact dI ‹_›)) ?_
        (repeat first|apply wA|apply wB|apply wC|apply wE|(apply zM;·kernel_rfl))
        refine AW.ret (retQA ty_ok rfl rfl rfl ?_)
        rfl
      · refine RG.runO ty_ok 0 [(69,.b false),(72,.b true)] 400 rfl (by repeat' (first|exact trivial|apply And.intro|exact dT ‹_›|exact dF ‹_›|exact dN ‹_›|exact dM ‹_›|exact dI ‹_›)) ?_
        (repeat first|apply wA|apply wB|apply wC|apply wE|(apply zM;·kernel_rfl))
        refine AW.ret (retQA ty_ok rfl rfl rfl ?_)
        rfl
    · refine RG.runO ty_ok 0 [(56,.b false),(59,.b true),(69,.b true)] 400 rfl (by repeat' (first|exact trivial|apply And.intro|exact dT ‹_›|exact dF ‹_›|exact dN ‹_›|exact dM ‹_›|exact dI ‹_›)) ?_
      (repeat first|apply wA|apply wB|apply wC|apply wE|(apply zM;·kernel_rfl))
      refine AW.ret (retQA ty_ok rfl rfl rfl ?_)
      rfl
end Go.Proofs.YtahjjfhjjbgjaaaGreat.Sm
end
section
namespace Go.Proofs.YtahjjfhjjbgjaaaGreat
open Go.RowKit Go.WideShapes Go.ChangeShapes Go.Deep Sm
theorem DifferSelf_law {H:Type} {e:TypeId × Value→H} (W:World) (b0:Nat)
  (v0:Value) (d0:DataW H) (p0:List MemPlace) (ok0:Value.okWide Tryz.prog W .any b0 31 v0) (h0:DataW.Trod e Tryz.prog W 0 (fun _=>true) true 31 v0 d0 p0)
  (v1:Value) (d1:DataW H) (p1:List MemPlace) (ok1:Value.okWide Tryz.prog W .any b0 31 v1) (h1:DataW.Trod e Tryz.prog W 0 (fun _=>true) true 31 v1 d1 p1)
  (v2:Value) (d2:DataW H) (p2:List MemPlace) (ok2:Value.okWide Tryz.prog W .any b0 5 v2) (h2:DataW.Trod e Tryz.prog W 0 (fun _=>true) true 5 v2 d2 p2)
  (hsz:(DataW.weightsEach Tryz.prog [31,31,5] [d0,d1,d2]).all (·≤reachBytes)=true)
  : Calls Tryz.prog 5 #[v0,v1,v2] W fun e W'=>e = .returned (.bool true)∧Kp No W W':=by
 obtain ⟨a0,r0,q0⟩:=rz_Cf.arg_struct Tryz.underlying31 hsz 0 rfl rfl ok0 h0
 obtain ⟨a1,r1,q1⟩:=rz_Cf.arg_struct Tryz.underlying31 hsz 1 rfl rfl ok1 h1
 obtain ⟨a2,r2⟩:=ra_u8.arg_int Tryz.underlying5 ok2 h2
 exact (DifferSelf_d a0 a1 a2 q0 q1).law (vs:=[v0,v1,v2]) rfl (pw_cons r0 (pw_cons r1 (pw_cons r2 (pw_nil))))
end Go.Proofs.YtahjjfhjjbgjaaaGreat
end
