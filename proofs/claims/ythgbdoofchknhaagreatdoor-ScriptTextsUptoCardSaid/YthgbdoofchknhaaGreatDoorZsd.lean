/- Contracts of the program's functions over data, and the plain laws that they meet (part 4). No condition. -/
import Derived.Test.YthgbdoofchknhaaGreatDoorZsc
import Derived.Shelf.Strings.Builder1
import Derived.Shelf.Strings.Builder2
import Derived.Shelf.Strings.OnBuilder
import Derived.Shelf.Small.Strs
import Derived.Shelf.Strings.BuilderF
import Derived.Shelf.Strings.BuilderK
import Derived.Shelf.Utf8.RuneCount
import Derived.Shelf.Strings.Builder2Cap
import Derived.Shelf.Strconv.Atoi
import Derived.Shelf.Strconv.Itoa0
import Derived.Shelf.Strconv.Itoa1
import Derived.Shelf.LaysM
import Derived.Shelf.Strconv.Itoa2
import Derived.Shelf.Strconv.Itoa3
import Derived.Shelf.Strconv.AtoiErrFast
import Derived.Shelf.Strconv.ParseIntEmpty
import Derived.Shelf.Strconv.AtoiFail
import Derived.Shelf.Strconv.Clone
import Derived.Shelf.Strconv.SyntaxError
import Derived.Shelf.LaysC
import Derived.Shelf.Strconv.ToError
import Derived.Shelf.Strconv.AtoiErr
import Derived.Shelf.Strconv.ErrVar
import Derived.Shelf.Strconv.Lower
import Derived.Shelf.Strconv.ParseUint10
import Derived.Shelf.Strconv.ParseUint10Empty
import Derived.Shelf.Strconv.ParseUint10Any
import Derived.Shelf.Strconv.ParseInt10
import Derived.Shelf.Strconv.AtoiLong
import Derived.Shelf.Strconv.AtoiInnerAll
import Derived.Shelf.Strconv.RangeError
import Derived.Shelf.Strconv.ToErrorRange
import Derived.Shelf.Strconv.AtoiAll
import Derived.Shelf.Strconv.ErrVarAll
import Derived.Shelf.Strconv.ParseUintEmpty
import Derived.Shelf.Strconv.ParseUint10b64
import Derived.Shelf.Strconv.ParseUint10b32
import Derived.Shelf.Strconv.ParseUint10b16
import Derived.Shelf.Strconv.ParseUint10b8
import Derived.Shelf.Strconv.ParseUint10At
import Derived.Shelf.Strconv.ParseInt10At64
import Derived.Shelf.Strconv.ParseInt10At32
import Derived.Shelf.Strconv.ParseInt10At16
import Derived.Shelf.Strconv.ParseInt10At8
import Derived.Shelf.Strconv.ParseInt10All
import Derived.Ground.MpProg
import Derived.Shelf.Pu.ParseUintPublic10
import Derived.Shelf.Pu.ErrVarParseUint
import Derived.Shelf.Strings.Search1
import Derived.Shelf.Strings.Search2
import Derived.Shelf.Strings.Search3
import Derived.Shelf.Strings.Cut
import Derived.Shelf.Strings.Count
import Derived.Shelf.Strings.Shaped
import Derived.Shelf.Strings.Prefix
import Derived.Shelf.Strings.Split
import Derived.Shelf.Strings.SplitShaped
import Derived.Shelf.Unicode.Decode
import Derived.Shelf.Strings.RuneCount
import Derived.Shelf.Strings.Explode
import Derived.Shelf.Bits.Mul64
import Derived.Shelf.Strings.Repeat
import Derived.Shelf.Unicode.DecodeSlow
import Derived.Shelf.Unicode.DecodeAny
import Derived.Shelf.Strings.BuilderCap
import Derived.Shelf.Bytes.SlSearch0
import Derived.Ground.SlbCloneProg
import Derived.Shelf.Bytes.SlClone
import Derived.Shelf.Bytes.SlEqualAll
import Derived.Shelf.Bytes.Small
import Derived.Test.YthgbdoofchknhaaGreatDoorProg
import Derived.WalkKit
import Derived.WalkSpells
import Derived.WalkLawsBesides
import Derived.Lib.Hide
import Derived.Deep.RegionHeld3
import Derived.Maps.AppendAt
import Derived.KernelRfl
import Derived.Lib.AppendStr
import Derived.Lib.FrozenHead2
import Derived.Lib.OthersKept
import Derived.Lib.LaidTab
import Derived.Lib.ItoaNum
import Derived.Lib.SmallJoins
import Derived.Orders
import Derived.LoopTactic
import Derived.Laws.CopyRow
import Derived.Laws.Cells
import Derived.OrdersIn
import Derived.Laws.Externs
import Derived.TacticsIn
import Derived.RangeFuncLeaves
import Derived.RangeFuncRecord
import Derived.Great.BuildSlice
import Derived.Deep.Slices
import Derived.Deep.Fields
import Derived.ChangeSame
import Derived.ProofKit
import Derived.OpenShut
import Derived.SizedLaws
import Derived.Lib.SplitLaws
import Derived.Lib.AtoiAllMem
import Derived.Lib.Join
import Derived.Lib.AtoiErrMem
import Derived.Deep.Cut
import Derived.Laws.StructEq
import Derived.Deep.Quiet
import Derived.Deep.QuietTactic
import Derived.Deep.CutRange
import Derived.Deep.CutBlock
import Derived.Laws.ResultCell
import Derived.Laws.IdiomRangeMap
import Derived.Lib.ItoaLen
set_option linter.unusedVariables false
set_option linter.unusedSimpArgs false
set_option maxRecDepth 100000
set_option maxHeartbeats 4000000
section
namespace Go.Proofs.YthgbdoofchknhaaGreatDoor
open Go.RowKit
theorem two_rows (w:World) (R S:Obj):((w.alloc R).alloc S).drew.heap[w.heap.size]?=some R/\((w.alloc R).alloc S).drew.heap[w.heap.size+1]?=some S/\Kp No w ((w.alloc R).alloc S).drew:=by
 have h1:=heap_alloc_new w R
 have h2:=heap_alloc_new (w.alloc R) S
 rw [alloc_size] at h2
 exact ⟨((Kp.refl No _).alloc S).drew.heap h1 id,((Kp.refl No _).drew).heap h2 id,(((Kp.refl No w).alloc R).alloc S).drew⟩
set_option maxRecDepth 100000 in
set_option maxHeartbeats 4000000 in
theorem same_r1 (w:World) (ba bb:Nat) (T1 T2:Int) (A B:Option Addr) (C D:Option Addr) (n ca m cb n2 cc m2 cd:Nat) (a1:w.cell? ⟨ba,1,none⟩=some (.int .i64 T1)) (a2:w.cell? ⟨ba,2,none⟩=some (.slice A n ca)) (a3:w.cell? ⟨ba,3,none⟩=some (.slice C n2 cc)) (b1:w.cell? ⟨bb,1,none⟩=some (.int .i64 T2)) (b2:w.cell? ⟨bb,2,none⟩=some (.slice B m cb)) (b3:w.cell? ⟨bb,3,none⟩=some (.slice D m2 cd)) {K:Act->World->Prop} {Q':Exit->Act->World->Prop} {u0 u1 u4 u5 u6 u7 u8 u9 u10 u11 u12 u13 u14 u15 u16 u17 u18 u19 u20 u21 u22 u23 u24 u25 u26 u27 u28 u29 u30 u31 u32 u33 u34 u35 u36 u37 u38 u39 u40 u41 u42 u43 u44 u45 u46 u47 u48 u49 u50 u51 u52 u53 u54 u55 u56 u57 u58 u59 u60 u61 u62 u63 u64 u65 u66 u67 u68 u69 u70 u71 u72 u73 u74 u75 u76 u77 u78 u79 u80 u81 u82 u83 u84 u85 u86 u87 u88 u89 u90 u91 u92 u93 u94 u95 u96 u97 u98 u99 u100 u101 u102 u103 u104 u105 u106 u107 u108:Value}
  (HK:Hid (∀(o o2 v10 v11 v12 v13:Value) (wr:World),(∃P Q,o = .pointer (some ⟨P,0,none⟩)/\o2 = .pointer (some ⟨Q,0,none⟩)/\wr.heap[P]?=some (.cells #[.int .i64 T1,.slice A n ca,.slice C n2 cc] 31 (0,0))/\wr.heap[Q]?=some (.cells #[.int .i64 T2,.slice B m cb,.slice D m2 cd] 31 (0,0))/\Kp No w wr)->K { tmps:=#[u0,u1,.pointer (some ⟨ba,0,none⟩),.pointer (some ⟨bb,0,none⟩),u4,o,o2,u7,u8,u9,v10,v11,v12,v13,u14,u15,u16,u17,u18,u19,u20,u21,u22,u23,u24,u25,u26,u27,u28,u29,u30,u31,u32,u33,u34,u35,u36,u37,u38,u39,u40,u41,u42,u43,u44,u45,u46,u47,u48,u49,u50,u51,u52,u53,u54,u55,u56,u57,u58,u59,u60,u61,u62,u63,u64,u65,u66,u67,u68,u69,u70,u71,u72,u73,u74,u75,u76,u77,u78,u79,u80,u81,u82,u83,u84,u85,u86,u87,u88,u89,u90,u91,u92,u93,u94,u95,u96,u97,u98,u99,u100,u101,u102,u103,u104,u105,u106,u107,u108],defers:=[] } wr)) :
  ∀cc,secRegion 1 (Tryz.f25.body.getD .skip)=cc->cc.wp Tryz.prog (Exit.then K Q') { tmps:=#[u0,u1,.pointer (some ⟨ba,0,none⟩),.pointer (some ⟨bb,0,none⟩),u4,u5,u6,u7,u8,u9,u10,u11,u12,u13,u14,u15,u16,u17,u18,u19,u20,u21,u22,u23,u24,u25,u26,u27,u28,u29,u30,u31,u32,u33,u34,u35,u36,u37,u38,u39,u40,u41,u42,u43,u44,u45,u46,u47,u48,u49,u50,u51,u52,u53,u54,u55,u56,u57,u58,u59,u60,u61,u62,u63,u64,u65,u66,u67,u68,u69,u70,u71,u72,u73,u74,u75,u76,u77,u78,u79,u80,u81,u82,u83,u84,u85,u86,u87,u88,u89,u90,u91,u92,u93,u94,u95,u96,u97,u98,u99,u100,u101,u102,u103,u104,u105,u106,u107,u108],defers:=[] } w:=by
 rintro cc rfl
 show Code.wp _ (Code.region 1 _ _) _ _ _
 refine wp_region_noPanic ?_
 refine wp_region_held_drew (S:=fun w'=>Hid (Kp No w w')) (by kernel_rfl) (Lib.hid (Kp.refl _ _).drew) (fun hHeld=>?_)
 refine wpAnyH_take (i:=0) (oi:=?_) (v:=?_) ?_ (by kernel_rfl) (by kernel_rfl) (by kernel_rfl) (fun _ _ _ h=>h) (Or.inl ⟨?_,fun w hSw=>?_⟩) hHeld ?_
 rotate_left 2
 ·(simp only [List.getElem?_toArray,List.getElem?_cons_zero];rfl)
 ·rfl
 ·(clear hSw;go_simp;try (with_reducible rfl))
 simp only [Act.put,List.setIfInBounds_toArray,List.set_cons_zero,List.set_cons_succ]
 refine wpAnyH_take (i:=1) (oi:=?_) (v:=?_) ?_ (by kernel_rfl) (by kernel_rfl) (by kernel_rfl) (fun _ _ _ h=>h) (Or.inl ⟨?_,fun w hSw=>?_⟩) hHeld ?_
 rotate_left 2
 ·(simp only [List.getElem?_toArray,List.getElem?_cons_succ,List.getElem?_cons_zero];rfl)
 ·rfl
 ·(have l1:=(Hid.out hSw).cell a1 id;have l2:=(Hid.out hSw).cell a2 id;have l3:=(Hid.out hSw).cell a3 id; have m1:=(Hid.out hSw).cell b1 id;have m2:=(Hid.out hSw).cell b2 id;have m3:=(Hid.out hSw).cell b3 id;clear hSw;go_simp;try (with_reducible rfl))
 simp only [Act.put,List.setIfInBounds_toArray,List.set_cons_zero,List.set_cons_succ]
 refine wpAnyH_take (i:=2) (oi:=?_) (v:=?_) ?_ (by kernel_rfl) (by kernel_rfl) (by kernel_rfl) (fun _ _ _ h=>h) (Or.inl ⟨?_,fun w hSw=>?_⟩) hHeld ?_
 rotate_left 2
 ·(simp only [List.getElem?_toArray,List.getElem?_cons_succ,List.getElem?_cons_zero];rfl)
 ·rfl
 ·(clear hSw;go_simp;try (with_reducible rfl))
 simp only [Act.put,List.setIfInBounds_toArray,List.set_cons_zero,List.set_cons_succ]
 refine wpAnyH_take (i:=3) (oi:=?_) (v:=?_) ?_ (by kernel_rfl) (by kernel_rfl) (by kernel_rfl) (fun _ _ _ h=>h) (Or.inl ⟨?_,fun w hSw=>?_⟩) hHeld ?_
 rotate_left 2
 ·(simp only [List.getElem?_toArray,List.getElem?_cons_succ,List.getElem?_cons_zero];rfl)
 ·rfl
 ·(have l1:=(Hid.out hSw).cell a1 id;have l2:=(Hid.out hSw).cell a2 id;have l3:=(Hid.out hSw).cell a3 id; have m1:=(Hid.out hSw).cell b1 id;have m2:=(Hid.out hSw).cell b2 id;have m3:=(Hid.out hSw).cell b3 id;clear hSw;go_simp;try (with_reducible rfl))
 simp only [Act.put,List.setIfInBounds_toArray,List.set_cons_zero,List.set_cons_succ]
 refine wpAnyH_ready (rs:=[4,5]) (by kernel_rfl) (by simp) ?_
 refine AllReadyH.cons (o:=?_) ?_ (fun K hK=>?_) ?_
 rotate_left
 ·(simp only [List.getElem?_toArray,List.getElem?_cons_succ,List.getElem?_cons_zero];rfl)
 ·skip
  go_simp
  refine hK.out _ _ (Lib.hid (by repeat (first | with_reducible exact Kp.refl _ _ | with_reducible refine Kp.alloc ?_ _ | with_reducible refine Kp.drew ?_ | with_reducible refine Kp.drewN ?_ _ | with_reducible refine Kp.setRow ?_ (from_le (by first | exact Nat.le_refl _ | omega)) _ | with_reducible refine Kp.setCell ?_ (Or.inl (from_le (by first | (dsimp only;omega) | omega | (simp;omega) | (simp;done)))) _))) (fun hHeld=>?_)
  clear hK K
  (try simp only [Act.put,List.setIfInBounds_toArray,List.set_cons_zero,List.set_cons_succ])
  refine wpAnyH_ready (rs:=[5]) (by kernel_rfl) (by simp) ?_
  refine AllReadyH.cons (o:=?_) ?_ (fun K hK=>?_) AllReadyH.nil
  rotate_left
  ·(simp only [List.getElem?_toArray,List.getElem?_cons_succ,List.getElem?_cons_zero];rfl)
  go_simp
  refine hK.out _ _ (Lib.hid (by repeat (first | with_reducible exact Kp.refl _ _ | with_reducible refine Kp.alloc ?_ _ | with_reducible refine Kp.drew ?_ | with_reducible refine Kp.drewN ?_ _ | with_reducible refine Kp.setRow ?_ (from_le (by first | exact Nat.le_refl _ | omega)) _ | with_reducible refine Kp.setCell ?_ (Or.inl (from_le (by first | (dsimp only;omega) | omega | (simp;omega) | (simp;done)))) _))) (fun hHeld=>?_)
  clear hK K
  (try simp only [Act.put,List.setIfInBounds_toArray,List.set_cons_zero,List.set_cons_succ])
  refine wpAnyH_ready (rs:=[6]) (by kernel_rfl) (by simp) ?_
  refine AllReadyH.cons (o:=?_) ?_ (fun K hK=>?_) AllReadyH.nil
  rotate_left
  ·(simp only [List.getElem?_toArray,List.getElem?_cons_succ,List.getElem?_cons_zero];rfl)
  go_simp
  refine hK.out _ _ (Lib.hid (by repeat (first | with_reducible exact Kp.refl _ _ | with_reducible refine Kp.alloc ?_ _ | with_reducible refine Kp.drew ?_ | with_reducible refine Kp.drewN ?_ _ | with_reducible refine Kp.setRow ?_ (from_le (by first | exact Nat.le_refl _ | omega)) _ | with_reducible refine Kp.setCell ?_ (Or.inl (from_le (by first | (dsimp only;omega) | omega | (simp;omega) | (simp;done)))) _))) (fun hHeld=>?_)
  clear hK K
  (try simp only [Act.put,List.setIfInBounds_toArray,List.set_cons_zero,List.set_cons_succ])
  refine wpAnyH_ready (rs:=[7]) (by kernel_rfl) (by simp) ?_
  refine AllReadyH.cons (o:=?_) ?_ (fun K hK=>?_) AllReadyH.nil
  rotate_left
  ·(simp only [List.getElem?_toArray,List.getElem?_cons_succ,List.getElem?_cons_zero];rfl)
  go_simp
  refine hK.out _ _ (Lib.hid (by repeat (first | with_reducible exact Kp.refl _ _ | with_reducible refine Kp.alloc ?_ _ | with_reducible refine Kp.drew ?_ | with_reducible refine Kp.drewN ?_ _ | with_reducible refine Kp.setRow ?_ (from_le (by first | exact Nat.le_refl _ | omega)) _ | with_reducible refine Kp.setCell ?_ (Or.inl (from_le (by first | (dsimp only;omega) | omega | (simp;omega) | (simp;done)))) _))) (fun hHeld=>?_)
  clear hK K
  (try simp only [Act.put,List.setIfInBounds_toArray,List.set_cons_zero,List.set_cons_succ])
  refine wpAnyH_done (by kernel_rfl) (NoPanic.normal ?_) _
  have h:=two_rows w
  refine HK.out _ _ _ _ _ _ _ ?_
  first
   | exact ⟨_,_,rfl,rfl,(h _ _).1,(h _ _).2.1,(h _ _).2.2⟩
   | exact ⟨_,_,rfl,rfl,(h _ _).2.1,(h _ _).1,(h _ _).2.2⟩
 refine AllReadyH.cons (o:=?_) ?_ (fun K hK=>?_) AllReadyH.nil
 rotate_left
 ·(simp only [List.getElem?_toArray,List.getElem?_cons_succ,List.getElem?_cons_zero];rfl)
 ·skip
  go_simp
  refine hK.out _ _ (Lib.hid (by repeat (first | with_reducible exact Kp.refl _ _ | with_reducible refine Kp.alloc ?_ _ | with_reducible refine Kp.drew ?_ | with_reducible refine Kp.drewN ?_ _ | with_reducible refine Kp.setRow ?_ (from_le (by first | exact Nat.le_refl _ | omega)) _ | with_reducible refine Kp.setCell ?_ (Or.inl (from_le (by first | (dsimp only;omega) | omega | (simp;omega) | (simp;done)))) _))) (fun hHeld=>?_)
  clear hK K
  (try simp only [Act.put,List.setIfInBounds_toArray,List.set_cons_zero,List.set_cons_succ])
  refine wpAnyH_ready (rs:=[4]) (by kernel_rfl) (by simp) ?_
  refine AllReadyH.cons (o:=?_) ?_ (fun K hK=>?_) AllReadyH.nil
  rotate_left
  ·(simp only [List.getElem?_toArray,List.getElem?_cons_succ,List.getElem?_cons_zero];rfl)
  go_simp
  refine hK.out _ _ (Lib.hid (by repeat (first | with_reducible exact Kp.refl _ _ | with_reducible refine Kp.alloc ?_ _ | with_reducible refine Kp.drew ?_ | with_reducible refine Kp.drewN ?_ _ | with_reducible refine Kp.setRow ?_ (from_le (by first | exact Nat.le_refl _ | omega)) _ | with_reducible refine Kp.setCell ?_ (Or.inl (from_le (by first | (dsimp only;omega) | omega | (simp;omega) | (simp;done)))) _))) (fun hHeld=>?_)
  clear hK K
  (try simp only [Act.put,List.setIfInBounds_toArray,List.set_cons_zero,List.set_cons_succ])
  refine wpAnyH_ready (rs:=[6]) (by kernel_rfl) (by simp) ?_
  refine AllReadyH.cons (o:=?_) ?_ (fun K hK=>?_) AllReadyH.nil
  rotate_left
  ·(simp only [List.getElem?_toArray,List.getElem?_cons_succ,List.getElem?_cons_zero];rfl)
  go_simp
  refine hK.out _ _ (Lib.hid (by repeat (first | with_reducible exact Kp.refl _ _ | with_reducible refine Kp.alloc ?_ _ | with_reducible refine Kp.drew ?_ | with_reducible refine Kp.drewN ?_ _ | with_reducible refine Kp.setRow ?_ (from_le (by first | exact Nat.le_refl _ | omega)) _ | with_reducible refine Kp.setCell ?_ (Or.inl (from_le (by first | (dsimp only;omega) | omega | (simp;omega) | (simp;done)))) _))) (fun hHeld=>?_)
  clear hK K
  (try simp only [Act.put,List.setIfInBounds_toArray,List.set_cons_zero,List.set_cons_succ])
  refine wpAnyH_ready (rs:=[7]) (by kernel_rfl) (by simp) ?_
  refine AllReadyH.cons (o:=?_) ?_ (fun K hK=>?_) AllReadyH.nil
  rotate_left
  ·(simp only [List.getElem?_toArray,List.getElem?_cons_succ,List.getElem?_cons_zero];rfl)
  go_simp
  refine hK.out _ _ (Lib.hid (by repeat (first | with_reducible exact Kp.refl _ _ | with_reducible refine Kp.alloc ?_ _ | with_reducible refine Kp.drew ?_ | with_reducible refine Kp.drewN ?_ _ | with_reducible refine Kp.setRow ?_ (from_le (by first | exact Nat.le_refl _ | omega)) _ | with_reducible refine Kp.setCell ?_ (Or.inl (from_le (by first | (dsimp only;omega) | omega | (simp;omega) | (simp;done)))) _))) (fun hHeld=>?_)
  clear hK K
  (try simp only [Act.put,List.setIfInBounds_toArray,List.set_cons_zero,List.set_cons_succ])
  refine wpAnyH_done (by kernel_rfl) (NoPanic.normal ?_) _
  have h:=two_rows w
  refine HK.out _ _ _ _ _ _ _ ?_
  first
   | exact ⟨_,_,rfl,rfl,(h _ _).1,(h _ _).2.1,(h _ _).2.2⟩
   | exact ⟨_,_,rfl,rfl,(h _ _).2.1,(h _ _).1,(h _ _).2.2⟩
set_option maxRecDepth 100000 in
set_option maxHeartbeats 4000000 in
theorem same_r2 (w : World) (F G : Nat -> Prop) (xs ys : List (List Pt)) (va vb : Value) (Ha : Hid (SliceAt ptR.slice w F xs va)) (Hb : Hid (SliceAt ptR.slice w G ys vb)) (P Q ba bb : Nat) (T1 T2 : Int) (A B C D X Y : Option Addr) (n ca m cb n2 cc m2 cd n3 ce m3 cf : Nat) (p0 : w.cell? ⟨P, 0, none⟩ = some (.int .i64 T1)) (p1 : w.cell? ⟨P, 1, none⟩ = some (.slice A n ca)) (p2 : w.cell? ⟨P, 2, none⟩ = some (.slice C n2 cc)) (q0 : w.cell? ⟨Q, 0, none⟩ = some (.int .i64 T2)) (q1 : w.cell? ⟨Q, 1, none⟩ = some (.slice B m cb)) (q2 : w.cell? ⟨Q, 2, none⟩ = some (.slice D m2 cd)) (a0 : w.cell? ⟨ba, 0, none⟩ = some va) (b0 : w.cell? ⟨bb, 0, none⟩ = some vb) (a4 : w.cell? ⟨ba, 4, none⟩ = some (.slice X n3 ce)) (b4 : w.cell? ⟨bb, 4, none⟩ = some (.slice Y m3 cf)) {K : Act -> World -> Prop} {Q' : Exit -> Act -> World -> Prop} {u0 u1 u4 u7 u8 u9 u10 u11 u12 u13 u14 u15 u16 u17 u18 u19 u20 u21 u22 u23 u24 u25 u26 u27 u28 u29 u30 u31 u32 u33 u34 u35 u36 u37 u38 u39 u40 u41 u42 u43 u44 u45 u46 u47 u48 u49 u50 u51 u52 u53 u54 u55 u56 u57 u58 u59 u60 u61 u62 u63 u64 u65 u66 u67 u68 u69 u70 u71 u72 u73 u74 u75 u76 u77 u78 u79 u80 u81 u82 u83 u84 u85 u86 u87 u88 u89 u90 u91 u92 u93 u94 u95 u96 u97 u98 u99 u100 u101 u102 u103 u104 u105 u106 u107 u108 : Value}
    (HK:Hid (∀(v14 v15 v16 v17 v18 v19 v20 v21 v22 v23 v24 v25 v26 v27 v28 v29 v30 v31 v32 v33 v34 v35 v36 v37 v38 v39 v40 v41 v42 v43 v44 v45 v46 v47 v48 v49 v50 v51 v52 o:Value) (wr:World),(∃b:Bool,o = .bool b/\(b=false↔xs=ys/\T1=T2/\n=m/\n2=m2/\n3=m3)/\Kp No w wr)->K { tmps:=#[u0,u1,.pointer (some ⟨ba,0,none⟩),.pointer (some ⟨bb,0,none⟩),u4,.pointer (some ⟨P,0,none⟩),.pointer (some ⟨Q,0,none⟩),u7,u8,u9,u10,u11,u12,u13,v14,v15,v16,v17,v18,v19,v20,v21,v22,v23,v24,v25,v26,v27,v28,v29,v30,v31,v32,v33,v34,v35,v36,v37,v38,v39,v40,v41,v42,v43,v44,v45,v46,v47,v48,v49,v50,v51,v52,o,u54,u55,u56,u57,u58,u59,u60,u61,u62,u63,u64,u65,u66,u67,u68,u69,u70,u71,u72,u73,u74,u75,u76,u77,u78,u79,u80,u81,u82,u83,u84,u85,u86,u87,u88,u89,u90,u91,u92,u93,u94,u95,u96,u97,u98,u99,u100,u101,u102,u103,u104,u105,u106,u107,u108],defers:=[] } wr)) :
    ∀cc,secRegion 2 (Tryz.f25.body.getD .skip)=cc->cc.wp Tryz.prog (Exit.then K Q') { tmps:=#[u0,u1,.pointer (some ⟨ba,0,none⟩),.pointer (some ⟨bb,0,none⟩),u4,.pointer (some ⟨P,0,none⟩),.pointer (some ⟨Q,0,none⟩),u7,u8,u9,u10,u11,u12,u13,u14,u15,u16,u17,u18,u19,u20,u21,u22,u23,u24,u25,u26,u27,u28,u29,u30,u31,u32,u33,u34,u35,u36,u37,u38,u39,u40,u41,u42,u43,u44,u45,u46,u47,u48,u49,u50,u51,u52,u53,u54,u55,u56,u57,u58,u59,u60,u61,u62,u63,u64,u65,u66,u67,u68,u69,u70,u71,u72,u73,u74,u75,u76,u77,u78,u79,u80,u81,u82,u83,u84,u85,u86,u87,u88,u89,u90,u91,u92,u93,u94,u95,u96,u97,u98,u99,u100,u101,u102,u103,u104,u105,u106,u107,u108],defers:=[] } w:=by
  rintro cc rfl
  show Code.wp _ (Code.region 2 _ _) _ _ _
  obtain ⟨A0,h0,c0,rfl,Hn0,_,_⟩:=Ha.out.form'
  obtain ⟨B0,g0,e0,rfl,Hm0,_,_⟩:=Hb.out.form'
  go_wp2_with fail
  refine (ref_Ports _ F G xs ys _ _ Ha.out Hb.out).mono ?_
  rintro e w2 ⟨b,rfl,hb,hk⟩
  have p0:=hk.cell p0 id
  have p1:=hk.cell p1 id
  have p2:=hk.cell p2 id
  have q0:=hk.cell q0 id
  have q1:=hk.cell q1 id
  have q2:=hk.cell q2 id
  have a4:=hk.cell a4 id
  have b4:=hk.cell b4 id
  have Hb2:=Lib.hid hb
  have Hk:=Lib.hid hk
  clear hb hk a0 b0
  cases b with
  | false =>
    go_wp2_with fail
    refine HK.out _ _ _ _ _ _ _ _ _ _ _ _ _ _ _ _ _ _ _ _ _ _ _ _ _ _ _ _ _ _ _ _ _ _ _ _ _ _ _ _ _ ?_
    exact ⟨true,rfl,⟨(fun h=>by cases h),fun h=>by have:=Hb2.out.2 h.1;cases this⟩,Hk.out⟩
  | true =>
    have Hxy:=Lib.hid (Hb2.out.1 rfl)
    by_cases d1:T1=T2
    rotate_left
    · go_wp2_with fail
      refine HK.out _ _ _ _ _ _ _ _ _ _ _ _ _ _ _ _ _ _ _ _ _ _ _ _ _ _ _ _ _ _ _ _ _ _ _ _ _ _ _ _ _ ?_
      exact ⟨true,rfl,⟨(fun h=>by cases h),fun h=>absurd h.2.1 d1⟩,Hk.out⟩
    by_cases d2:n=m
    rotate_left
    · have e2:¬(n:Int)=(m:Int):=by omega
      go_wp2_with fail
      refine HK.out _ _ _ _ _ _ _ _ _ _ _ _ _ _ _ _ _ _ _ _ _ _ _ _ _ _ _ _ _ _ _ _ _ _ _ _ _ _ _ _ _ ?_
      exact ⟨true,rfl,⟨(fun h=>by cases h),fun h=>absurd h.2.2.1 d2⟩,Hk.out⟩
    by_cases d3:n2=m2
    rotate_left
    · have e3:¬(n2:Int)=(m2:Int):=by omega
      go_wp2_with fail
      refine HK.out _ _ _ _ _ _ _ _ _ _ _ _ _ _ _ _ _ _ _ _ _ _ _ _ _ _ _ _ _ _ _ _ _ _ _ _ _ _ _ _ _ ?_
      exact ⟨true,rfl,⟨(fun h=>by cases h),fun h=>absurd h.2.2.2.1 d3⟩,Hk.out⟩
    by_cases d4:n3=m3
    rotate_left
    · have e4:((n3:Int) != (m3:Int))=true:=by simp;omega
      go_wp2_with fail
      refine HK.out _ _ _ _ _ _ _ _ _ _ _ _ _ _ _ _ _ _ _ _ _ _ _ _ _ _ _ _ _ _ _ _ _ _ _ _ _ _ _ _ _ ?_
      exact ⟨true,by first | rfl | rw [e4],⟨(fun h=>by cases h),fun h=>absurd h.2.2.2.2 d4⟩,Hk.out⟩
    have D1:=Lib.hid d1
    have D2:=Lib.hid d2
    have D3:=Lib.hid d3
    have D4:=Lib.hid d4
    subst d1 d2 d3 d4
    go_wp2_with fail
    refine HK.out _ _ _ _ _ _ _ _ _ _ _ _ _ _ _ _ _ _ _ _ _ _ _ _ _ _ _ _ _ _ _ _ _ _ _ _ _ _ _ _ _ ?_
    exact ⟨false,by first | rfl | simp,⟨fun _=>by simp [Hxy.out],fun _=>rfl⟩,Hk.out⟩
set_option maxRecDepth 100000 in
theorem same_peers_r (w:World) (P Q n ca cb k b3 o3 b4 o4:Nat) (p0 p1 r0 r1:Int) (b:Bool) (hkn:(k:Int)<(n:Int)) (ea:w.cell? ⟨P,1,none⟩=some (.slice (some ⟨b3,o3,none⟩) n ca)) (eb:w.cell? ⟨Q,1,none⟩=some (.slice (some ⟨b4,o4,none⟩) n cb)) (e0:w.cell? ⟨b3,o3+k*2,none⟩=some (.int .i64 p0)) (e1:w.cell? ⟨b3,o3+k*2+1,none⟩=some (.int .i64 p1)) (f0:w.cell? ⟨b4,o4+k*2,none⟩=some (.int .i64 r0)) (f1:w.cell? ⟨b4,o4+k*2+1,none⟩=some (.int .i64 r1)) (hneq:∀w:World,(binOp .neq 96 (.agg #[.int .i64 p0,.int .i64 p1]) (.agg #[.int .i64 r0,.int .i64 r1])).run Tryz.prog w = .ok (.bool b) w) {K:Act->World->Prop} {Q':Exit->Act->World->Prop} {u0 u1 u2 u3 u4 u8 u9 u10 u11 u12 u13 u14 u15 u16 u17 u18 u19 u20 u21 u22 u23 u24 u25 u26 u27 u28 u29 u30 u31 u32 u33 u34 u35 u36 u37 u38 u39 u40 u41 u42 u43 u44 u45 u46 u47 u48 u49 u50 u51 u52 u53 u54 u55 u56 u57 u58 u59 u60 u61 u62 u63 u64 u65 u66 u67 u68 u69 u70 u71 u72 u73 u74 u75 u76 u77 u78 u79 u80 u81 u82 u83 u84 u85 u86 u87 u88 u89 u90 u91 u92 u93 u94 u95 u96 u97 u98 u99 u100 u101 u102 u103 u104 u105 u106 u107 u108:Value}
  (HK:Hid (∀(v61 v62 v63 v64 v65 v66 v67 v68 v69 v70 o:Value) (wr:World),(o = .bool b/\∃n,wr=w.drewN n)->K { tmps:=#[u0,u1,u2,u3,u4,.pointer (some ⟨P,0,none⟩),.pointer (some ⟨Q,0,none⟩),.int .i64 k,u8,u9,u10,u11,u12,u13,u14,u15,u16,u17,u18,u19,u20,u21,u22,u23,u24,u25,u26,u27,u28,u29,u30,u31,u32,u33,u34,u35,u36,u37,u38,u39,u40,u41,u42,u43,u44,u45,u46,u47,u48,u49,u50,u51,u52,u53,u54,u55,u56,u57,u58,u59,u60,v61,v62,v63,v64,v65,v66,v67,v68,v69,v70,o,u72,u73,u74,u75,u76,u77,u78,u79,u80,u81,u82,u83,u84,u85,u86,u87,u88,u89,u90,u91,u92,u93,u94,u95,u96,u97,u98,u99,u100,u101,u102,u103,u104,u105,u106,u107,u108],defers:=[] } wr)) :
  ∀cc,secRegion 7 (Tryz.f25.body.getD .skip)=cc->cc.wp Tryz.prog (Exit.then K Q') { tmps:=#[u0,u1,u2,u3,u4,.pointer (some ⟨P,0,none⟩),.pointer (some ⟨Q,0,none⟩),.int .i64 k,u8,u9,u10,u11,u12,u13,u14,u15,u16,u17,u18,u19,u20,u21,u22,u23,u24,u25,u26,u27,u28,u29,u30,u31,u32,u33,u34,u35,u36,u37,u38,u39,u40,u41,u42,u43,u44,u45,u46,u47,u48,u49,u50,u51,u52,u53,u54,u55,u56,u57,u58,u59,u60,u61,u62,u63,u64,u65,u66,u67,u68,u69,u70,u71,u72,u73,u74,u75,u76,u77,u78,u79,u80,u81,u82,u83,u84,u85,u86,u87,u88,u89,u90,u91,u92,u93,u94,u95,u96,u97,u98,u99,u100,u101,u102,u103,u104,u105,u106,u107,u108],defers:=[] } w:=by
 rintro cc rfl
 show Code.wp _ (Code.region 7 _ _) _ _ _
 go_quiet (fail)
 refine HK.out _ _ _ _ _ _ _ _ _ _ _ _ ?_
 exact ⟨rfl,_,rfl⟩
set_option maxRecDepth 100000 in
set_option maxHeartbeats 4000000 in
theorem same_peers (wx w1 : World) (F G : Nat -> Prop) (xs ys : List Pr) (A B : Option Addr) (n ca cb P Q : Nat) (Ha : Hid (SliceAt prR wx F xs (.slice A n ca))) (Hb : Hid (SliceAt prR wx G ys (.slice B n cb))) (Hn : Hid (n = xs.length)) (Hm : Hid (n = ys.length)) (hca : n <= ca) (hca2 : ca <= 9223372036854775807) (hcb : n <= cb) (hcb2 : cb <= 9223372036854775807) (cp : wx.cell? ⟨P, 1, none⟩ = some (.slice A n ca)) (cq : wx.cell? ⟨Q, 1, none⟩ = some (.slice B n cb)) (Hk : Hid (Kp No wx w1)) {K : Act -> World -> Prop} {Q' : Exit -> Act -> World -> Prop} {u0 u1 u2 u3 u4 u8 u9 u10 u11 u12 u13 u14 u15 u16 u17 u18 u19 u20 u21 u22 u23 u24 u25 u26 u27 u28 u29 u30 u31 u32 u33 u34 u35 u36 u37 u38 u39 u40 u41 u42 u43 u44 u45 u46 u47 u48 u49 u50 u51 u52 u53 u54 u55 u56 u57 u58 u59 u60 u61 u62 u63 u64 u65 u66 u67 u68 u69 u70 u71 u72 u73 u74 u75 u76 u77 u78 u79 u80 u81 u82 u83 u84 u85 u86 u87 u88 u89 u90 u91 u92 u93 u94 u95 u96 u97 u98 u99 u100 u101 u102 u103 u104 u105 u106 u107 u108 : Value}
    (HK:Hid (∀(o v7 v54 v55 v56 v57 v58 v59 v60 v61 v62 v63 v64 v65 v66 v67 v68 v69 v70 v71:Value) (wr:World),(xs=ys/\Kp No wx wr)->K { tmps:=#[u0,u1,u2,u3,o,.pointer (some ⟨P,0,none⟩),.pointer (some ⟨Q,0,none⟩),v7,u8,u9,u10,u11,u12,u13,u14,u15,u16,u17,u18,u19,u20,u21,u22,u23,u24,u25,u26,u27,u28,u29,u30,u31,u32,u33,u34,u35,u36,u37,u38,u39,u40,u41,u42,u43,u44,u45,u46,u47,u48,u49,u50,u51,u52,u53,v54,v55,v56,v57,v58,v59,v60,v61,v62,v63,v64,v65,v66,v67,v68,v69,v70,v71,u72,u73,u74,u75,u76,u77,u78,u79,u80,u81,u82,u83,u84,u85,u86,u87,u88,u89,u90,u91,u92,u93,u94,u95,u96,u97,u98,u99,u100,u101,u102,u103,u104,u105,u106,u107,u108],defers:=[] } wr))
    (HR:Hid (∀(o v7 v54 v55 v56 v57 v58 v59 v60 v61 v62 v63 v64 v65 v66 v67 v68 v69 v70 v71:Value) (wr:World),(o = .bool false/\¬xs=ys/\Kp No wx wr)->Q' Exit.ret { tmps:=#[u0,u1,u2,u3,o,.pointer (some ⟨P,0,none⟩),.pointer (some ⟨Q,0,none⟩),v7,u8,u9,u10,u11,u12,u13,u14,u15,u16,u17,u18,u19,u20,u21,u22,u23,u24,u25,u26,u27,u28,u29,u30,u31,u32,u33,u34,u35,u36,u37,u38,u39,u40,u41,u42,u43,u44,u45,u46,u47,u48,u49,u50,u51,u52,u53,v54,v55,v56,v57,v58,v59,v60,v61,v62,v63,v64,v65,v66,v67,v68,v69,v70,v71,u72,u73,u74,u75,u76,u77,u78,u79,u80,u81,u82,u83,u84,u85,u86,u87,u88,u89,u90,u91,u92,u93,u94,u95,u96,u97,u98,u99,u100,u101,u102,u103,u104,u105,u106,u107,u108],defers:=[] } wr)) :
    ∀cc,secBlock 0 (Tryz.f25.body.getD .skip)=cc->cc.wp Tryz.prog (Exit.then K Q') { tmps:=#[u0,u1,u2,u3,u4,.pointer (some ⟨P,0,none⟩),.pointer (some ⟨Q,0,none⟩),.int .i64 0,u8,u9,u10,u11,u12,u13,u14,u15,u16,u17,u18,u19,u20,u21,u22,u23,u24,u25,u26,u27,u28,u29,u30,u31,u32,u33,u34,u35,u36,u37,u38,u39,u40,u41,u42,u43,u44,u45,u46,u47,u48,u49,u50,u51,u52,u53,u54,u55,u56,u57,u58,u59,u60,u61,u62,u63,u64,u65,u66,u67,u68,u69,u70,u71,u72,u73,u74,u75,u76,u77,u78,u79,u80,u81,u82,u83,u84,u85,u86,u87,u88,u89,u90,u91,u92,u93,u94,u95,u96,u97,u98,u99,u100,u101,u102,u103,u104,u105,u106,u107,u108],defers:=[] } w1:=by
  rintro cc rfl
  show Code.wp _ (Code.block 0 _) _ _ _
  go_wp2_with fail
  go_loopw [7] (fun i wr=>∃k:Nat,k<=n/\i = .int .i64 k/\(∀i<k,xs[i]?=ys[i]?)/\Kp No wx wr) (fun i _=>n - (intOf i).toNat)
  case atStart=>exact ⟨0,Nat.zero_le _,rfl,fun i h=>absurd h (Nat.not_lt_zero _),Hk.out⟩
  case round =>
    obtain ⟨k,hk,rfl,hsm,hkr⟩:=hrel
    have q3:(0:Int)<=(k:Int):=by omega
    have Hsm:=Lib.hid hsm
    have HkW:=Lib.hid hkr
    have cp:=hkr.cell cp id
    have cq:=hkr.cell cq id
    by_cases hlt:k<n
    · have q4:(k:Int)<(n:Int):=by omega
      obtain ⟨x,hx⟩:∃x,xs[k]?=some x:=⟨_,List.getElem?_eq_getElem (by rw [<- Hn.out];exact hlt)⟩
      obtain ⟨y,hy⟩:∃y,ys[k]?=some y:=⟨_,List.getElem?_eq_getElem (by rw [<- Hm.out];exact hlt)⟩
      obtain ⟨b3,o3,rfl,_,e0,e1⟩:=(Ha.out.kp hkr (fun _ _=>id)).get_Pr hx
      obtain ⟨b4,o4,rfl,_,f0,f1⟩:=(Hb.out.kp hkr (fun _ _=>id)).get_Pr hy
      have Hx:=Lib.hid hx
      have Hy:=Lib.hid hy
      have Hlt:=Lib.hid hlt
      have hneq:=fun w:World=>neq_Pr w x y
      generalize i64of x.a=p0 at e0 hneq
      generalize i64of y.a=r0 at f0 hneq
      generalize i64of x.b=p1 at e1 hneq
      generalize i64of y.b=r1 at f1 hneq
      clear hx hy hlt hsm hkr
      by_cases hxy:x.words=y.words
      · have Heq:=Lib.hid (words_Pr.1 hxy)
        simp only [decide_eq_true hxy,Bool.not_true] at hneq
        clear hxy
        go_upto_region 7 with (fail)
        refine same_peers_r _ P Q n ca cb k b3 o3 b4 o4 p0 p1 r0 r1 _ q4 cp cq e0 e1 f0 f1 hneq (Lib.hid ?_) _ rfl
        intro v61 v62 v63 v64 v65 v66 v67 v68 v69 v70 o wr hrel
        obtain ⟨rfl,nq,rfl⟩:=hrel
        go_wp2_with fail
        go_roundw
        case rel=>exact ⟨k+1,by have:=Hlt.out;omega,by go_num,same_step Hsm.out Hx.out Hy.out Heq.out,HkW.out.drewN _⟩
        case measure=>simp [intOf];have:=Hlt.out;omega
      · have Hne:=Lib.hid (diff_at Hx.out Hy.out (fun h=>hxy (words_Pr.2 h)))
        simp only [decide_eq_false hxy,Bool.not_false] at hneq
        clear hxy
        go_upto_region 7 with (fail)
        refine same_peers_r _ P Q n ca cb k b3 o3 b4 o4 p0 p1 r0 r1 _ q4 cp cq e0 e1 f0 f1 hneq (Lib.hid ?_) _ rfl
        intro v61 v62 v63 v64 v65 v66 v67 v68 v69 v70 o wr hrel
        obtain ⟨rfl,nq,rfl⟩:=hrel
        go_wp2_with fail
        (try simp only [Exit.inBlock,Exit.then]);refine HR.out _ _ _ _ _ _ _ _ _ _ _ _ _ _ _ _ _ _ _ _ _ ?_
        exact ⟨rfl,Hne.out,HkW.out.drewN _⟩
    · have q4:¬(k:Int)<(n:Int):=by omega
      have Hxy:=Lib.hid (same_all Hsm.out (by rw [<- Hn.out];omega) (by rw [<- Hm.out];omega))
      clear hlt hsm hkr
      go_wp2_with fail
      refine HK.out _ _ _ _ _ _ _ _ _ _ _ _ _ _ _ _ _ _ _ _ _ ?_
      exact ⟨Hxy.out,HkW.out⟩
set_option maxRecDepth 100000 in
theorem same_ways_r (w:World) (P Q n ca cb k b3 o3 b4 o4:Nat) (p0 p1 p2 r0 r1 r2:Int) (b:Bool) (hkn:(k:Int)<(n:Int)) (ea:w.cell? ⟨P,2,none⟩=some (.slice (some ⟨b3,o3,none⟩) n ca)) (eb:w.cell? ⟨Q,2,none⟩=some (.slice (some ⟨b4,o4,none⟩) n cb)) (e0:w.cell? ⟨b3,o3+k*3,none⟩=some (.int .i64 p0)) (e1:w.cell? ⟨b3,o3+k*3+1,none⟩=some (.int .i64 p1)) (e2:w.cell? ⟨b3,o3+k*3+2,none⟩=some (.int .i64 p2)) (f0:w.cell? ⟨b4,o4+k*3,none⟩=some (.int .i64 r0)) (f1:w.cell? ⟨b4,o4+k*3+1,none⟩=some (.int .i64 r1)) (f2:w.cell? ⟨b4,o4+k*3+2,none⟩=some (.int .i64 r2)) (hneq:∀w:World,(binOp .neq 98 (.agg #[.int .i64 p0,.int .i64 p1,.int .i64 p2]) (.agg #[.int .i64 r0,.int .i64 r1,.int .i64 r2])).run Tryz.prog w = .ok (.bool b) w) {K:Act->World->Prop} {Q':Exit->Act->World->Prop} {u0 u1 u2 u3 u4 u7 u9 u10 u11 u12 u13 u14 u15 u16 u17 u18 u19 u20 u21 u22 u23 u24 u25 u26 u27 u28 u29 u30 u31 u32 u33 u34 u35 u36 u37 u38 u39 u40 u41 u42 u43 u44 u45 u46 u47 u48 u49 u50 u51 u52 u53 u54 u55 u56 u57 u58 u59 u60 u61 u62 u63 u64 u65 u66 u67 u68 u69 u70 u71 u72 u73 u74 u75 u76 u77 u78 u79 u80 u81 u82 u83 u84 u85 u86 u87 u88 u89 u90 u91 u92 u93 u94 u95 u96 u97 u98 u99 u100 u101 u102 u103 u104 u105 u106 u107 u108:Value}
  (HK:Hid (∀(v79 v80 v81 v82 v83 v84 v85 v86 v87 v88 o:Value) (wr:World),(o = .bool b/\∃n,wr=w.drewN n)->K { tmps:=#[u0,u1,u2,u3,u4,.pointer (some ⟨P,0,none⟩),.pointer (some ⟨Q,0,none⟩),u7,.int .i64 k,u9,u10,u11,u12,u13,u14,u15,u16,u17,u18,u19,u20,u21,u22,u23,u24,u25,u26,u27,u28,u29,u30,u31,u32,u33,u34,u35,u36,u37,u38,u39,u40,u41,u42,u43,u44,u45,u46,u47,u48,u49,u50,u51,u52,u53,u54,u55,u56,u57,u58,u59,u60,u61,u62,u63,u64,u65,u66,u67,u68,u69,u70,u71,u72,u73,u74,u75,u76,u77,u78,v79,v80,v81,v82,v83,v84,v85,v86,v87,v88,o,u90,u91,u92,u93,u94,u95,u96,u97,u98,u99,u100,u101,u102,u103,u104,u105,u106,u107,u108],defers:=[] } wr)) :
  ∀cc,secRegion 12 (Tryz.f25.body.getD .skip)=cc->cc.wp Tryz.prog (Exit.then K Q') { tmps:=#[u0,u1,u2,u3,u4,.pointer (some ⟨P,0,none⟩),.pointer (some ⟨Q,0,none⟩),u7,.int .i64 k,u9,u10,u11,u12,u13,u14,u15,u16,u17,u18,u19,u20,u21,u22,u23,u24,u25,u26,u27,u28,u29,u30,u31,u32,u33,u34,u35,u36,u37,u38,u39,u40,u41,u42,u43,u44,u45,u46,u47,u48,u49,u50,u51,u52,u53,u54,u55,u56,u57,u58,u59,u60,u61,u62,u63,u64,u65,u66,u67,u68,u69,u70,u71,u72,u73,u74,u75,u76,u77,u78,u79,u80,u81,u82,u83,u84,u85,u86,u87,u88,u89,u90,u91,u92,u93,u94,u95,u96,u97,u98,u99,u100,u101,u102,u103,u104,u105,u106,u107,u108],defers:=[] } w:=by
 rintro cc rfl
 show Code.wp _ (Code.region 12 _ _) _ _ _
 go_quiet (fail)
 refine HK.out _ _ _ _ _ _ _ _ _ _ _ _ ?_
 exact ⟨rfl,_,rfl⟩
set_option maxRecDepth 100000 in
set_option maxHeartbeats 4000000 in
theorem same_ways (wx w1 : World) (F G : Nat -> Prop) (xs ys : List Wy) (A B : Option Addr) (n ca cb P Q : Nat) (Ha : Hid (SliceAt wyR wx F xs (.slice A n ca))) (Hb : Hid (SliceAt wyR wx G ys (.slice B n cb))) (Hn : Hid (n = xs.length)) (Hm : Hid (n = ys.length)) (hca : n <= ca) (hca2 : ca <= 9223372036854775807) (hcb : n <= cb) (hcb2 : cb <= 9223372036854775807) (cp : wx.cell? ⟨P, 2, none⟩ = some (.slice A n ca)) (cq : wx.cell? ⟨Q, 2, none⟩ = some (.slice B n cb)) (Hk : Hid (Kp No wx w1)) {K : Act -> World -> Prop} {Q' : Exit -> Act -> World -> Prop} {u0 u1 u2 u3 u4 u7 u9 u10 u11 u12 u13 u14 u15 u16 u17 u18 u19 u20 u21 u22 u23 u24 u25 u26 u27 u28 u29 u30 u31 u32 u33 u34 u35 u36 u37 u38 u39 u40 u41 u42 u43 u44 u45 u46 u47 u48 u49 u50 u51 u52 u53 u54 u55 u56 u57 u58 u59 u60 u61 u62 u63 u64 u65 u66 u67 u68 u69 u70 u71 u72 u73 u74 u75 u76 u77 u78 u79 u80 u81 u82 u83 u84 u85 u86 u87 u88 u89 u90 u91 u92 u93 u94 u95 u96 u97 u98 u99 u100 u101 u102 u103 u104 u105 u106 u107 u108 : Value}
    (HK:Hid (∀(o v8 v72 v73 v74 v75 v76 v77 v78 v79 v80 v81 v82 v83 v84 v85 v86 v87 v88 v89:Value) (wr:World),(xs=ys/\Kp No wx wr)->K { tmps:=#[u0,u1,u2,u3,o,.pointer (some ⟨P,0,none⟩),.pointer (some ⟨Q,0,none⟩),u7,v8,u9,u10,u11,u12,u13,u14,u15,u16,u17,u18,u19,u20,u21,u22,u23,u24,u25,u26,u27,u28,u29,u30,u31,u32,u33,u34,u35,u36,u37,u38,u39,u40,u41,u42,u43,u44,u45,u46,u47,u48,u49,u50,u51,u52,u53,u54,u55,u56,u57,u58,u59,u60,u61,u62,u63,u64,u65,u66,u67,u68,u69,u70,u71,v72,v73,v74,v75,v76,v77,v78,v79,v80,v81,v82,v83,v84,v85,v86,v87,v88,v89,u90,u91,u92,u93,u94,u95,u96,u97,u98,u99,u100,u101,u102,u103,u104,u105,u106,u107,u108],defers:=[] } wr))
    (HR:Hid (∀(o v8 v72 v73 v74 v75 v76 v77 v78 v79 v80 v81 v82 v83 v84 v85 v86 v87 v88 v89:Value) (wr:World),(o = .bool false/\¬xs=ys/\Kp No wx wr)->Q' Exit.ret { tmps:=#[u0,u1,u2,u3,o,.pointer (some ⟨P,0,none⟩),.pointer (some ⟨Q,0,none⟩),u7,v8,u9,u10,u11,u12,u13,u14,u15,u16,u17,u18,u19,u20,u21,u22,u23,u24,u25,u26,u27,u28,u29,u30,u31,u32,u33,u34,u35,u36,u37,u38,u39,u40,u41,u42,u43,u44,u45,u46,u47,u48,u49,u50,u51,u52,u53,u54,u55,u56,u57,u58,u59,u60,u61,u62,u63,u64,u65,u66,u67,u68,u69,u70,u71,v72,v73,v74,v75,v76,v77,v78,v79,v80,v81,v82,v83,v84,v85,v86,v87,v88,v89,u90,u91,u92,u93,u94,u95,u96,u97,u98,u99,u100,u101,u102,u103,u104,u105,u106,u107,u108],defers:=[] } wr)) :
    ∀cc,secBlock 2 (Tryz.f25.body.getD .skip)=cc->cc.wp Tryz.prog (Exit.then K Q') { tmps:=#[u0,u1,u2,u3,u4,.pointer (some ⟨P,0,none⟩),.pointer (some ⟨Q,0,none⟩),u7,.int .i64 0,u9,u10,u11,u12,u13,u14,u15,u16,u17,u18,u19,u20,u21,u22,u23,u24,u25,u26,u27,u28,u29,u30,u31,u32,u33,u34,u35,u36,u37,u38,u39,u40,u41,u42,u43,u44,u45,u46,u47,u48,u49,u50,u51,u52,u53,u54,u55,u56,u57,u58,u59,u60,u61,u62,u63,u64,u65,u66,u67,u68,u69,u70,u71,u72,u73,u74,u75,u76,u77,u78,u79,u80,u81,u82,u83,u84,u85,u86,u87,u88,u89,u90,u91,u92,u93,u94,u95,u96,u97,u98,u99,u100,u101,u102,u103,u104,u105,u106,u107,u108],defers:=[] } w1:=by
  rintro cc rfl
  show Code.wp _ (Code.block 2 _) _ _ _
  go_wp2_with fail
  go_loopw [8] (fun i wr=>∃k:Nat,k<=n/\i = .int .i64 k/\(∀i<k,xs[i]?=ys[i]?)/\Kp No wx wr) (fun i _=>n - (intOf i).toNat)
  case atStart=>exact ⟨0,Nat.zero_le _,rfl,fun i h=>absurd h (Nat.not_lt_zero _),Hk.out⟩
  case round =>
    obtain ⟨k,hk,rfl,hsm,hkr⟩:=hrel
    have q3:(0:Int)<=(k:Int):=by omega
    have Hsm:=Lib.hid hsm
    have HkW:=Lib.hid hkr
    have cp:=hkr.cell cp id
    have cq:=hkr.cell cq id
    by_cases hlt:k<n
    · have q4:(k:Int)<(n:Int):=by omega
      obtain ⟨x,hx⟩:∃x,xs[k]?=some x:=⟨_,List.getElem?_eq_getElem (by rw [<- Hn.out];exact hlt)⟩
      obtain ⟨y,hy⟩:∃y,ys[k]?=some y:=⟨_,List.getElem?_eq_getElem (by rw [<- Hm.out];exact hlt)⟩
      obtain ⟨b3,o3,rfl,_,e0,e1,e2⟩:=(Ha.out.kp hkr (fun _ _=>id)).get_Wy hx
      obtain ⟨b4,o4,rfl,_,f0,f1,f2⟩:=(Hb.out.kp hkr (fun _ _=>id)).get_Wy hy
      have Hx:=Lib.hid hx
      have Hy:=Lib.hid hy
      have Hlt:=Lib.hid hlt
      have hneq:=fun w:World=>neq_Wy w x y
      generalize i64of x.fro=p0 at e0 hneq
      generalize i64of y.fro=r0 at f0 hneq
      generalize i64of x.to=p1 at e1 hneq
      generalize i64of y.to=r1 at f1 hneq
      generalize i64of x.via=p2 at e2 hneq
      generalize i64of y.via=r2 at f2 hneq
      clear hx hy hlt hsm hkr
      by_cases hxy:x.words=y.words
      · have Heq:=Lib.hid (words_Wy.1 hxy)
        simp only [decide_eq_true hxy,Bool.not_true] at hneq
        clear hxy
        go_upto_region 12 with (fail)
        refine same_ways_r _ P Q n ca cb k b3 o3 b4 o4 p0 p1 p2 r0 r1 r2 _ q4 cp cq e0 e1 e2 f0 f1 f2 hneq (Lib.hid ?_) _ rfl
        intro v79 v80 v81 v82 v83 v84 v85 v86 v87 v88 o wr hrel
        obtain ⟨rfl,nq,rfl⟩:=hrel
        go_wp2_with fail
        go_roundw
        case rel=>exact ⟨k+1,by have:=Hlt.out;omega,by go_num,same_step Hsm.out Hx.out Hy.out Heq.out,HkW.out.drewN _⟩
        case measure=>simp [intOf];have:=Hlt.out;omega
      · have Hne:=Lib.hid (diff_at Hx.out Hy.out (fun h=>hxy (words_Wy.2 h)))
        simp only [decide_eq_false hxy,Bool.not_false] at hneq
        clear hxy
        go_upto_region 12 with (fail)
        refine same_ways_r _ P Q n ca cb k b3 o3 b4 o4 p0 p1 p2 r0 r1 r2 _ q4 cp cq e0 e1 e2 f0 f1 f2 hneq (Lib.hid ?_) _ rfl
        intro v79 v80 v81 v82 v83 v84 v85 v86 v87 v88 o wr hrel
        obtain ⟨rfl,nq,rfl⟩:=hrel
        go_wp2_with fail
        (try simp only [Exit.inBlock,Exit.then]);refine HR.out _ _ _ _ _ _ _ _ _ _ _ _ _ _ _ _ _ _ _ _ _ ?_
        exact ⟨rfl,Hne.out,HkW.out.drewN _⟩
    · have q4:¬(k:Int)<(n:Int):=by omega
      have Hxy:=Lib.hid (same_all Hsm.out (by rw [<- Hn.out];omega) (by rw [<- Hm.out];omega))
      clear hlt hsm hkr
      go_wp2_with fail
      refine HK.out _ _ _ _ _ _ _ _ _ _ _ _ _ _ _ _ _ _ _ _ _ ?_
      exact ⟨Hxy.out,HkW.out⟩
set_option maxRecDepth 100000 in
set_option maxHeartbeats 4000000 in
theorem same_tables (wx w1 : World) (F G : Nat -> Prop) (xs ys : List (List (List Rl))) (A B : Option Addr) (n ca cb P Q : Nat) (Ha : Hid (SliceAt rlR.slice.slice wx F xs (.slice A n ca))) (Hb : Hid (SliceAt rlR.slice.slice wx G ys (.slice B n cb))) (Hn : Hid (n = xs.length)) (Hm : Hid (n = ys.length)) (hca : n <= ca) (hca2 : ca <= 9223372036854775807) (hcb : n <= cb) (hcb2 : cb <= 9223372036854775807) (p1 : wx.cell? ⟨P, 4, none⟩ = some (.slice A n ca)) (q1 : wx.cell? ⟨Q, 4, none⟩ = some (.slice B n cb)) (Hk : Hid (Kp No wx w1)) {K : Act -> World -> Prop} {Q' : Exit -> Act -> World -> Prop} {u0 u1 u4 u5 u6 u7 u8 u10 u11 u12 u13 u14 u15 u16 u17 u18 u19 u20 u21 u22 u23 u24 u25 u26 u27 u28 u29 u30 u31 u32 u33 u34 u35 u36 u37 u38 u39 u40 u41 u42 u43 u44 u45 u46 u47 u48 u49 u50 u51 u52 u53 u54 u55 u56 u57 u58 u59 u60 u61 u62 u63 u64 u65 u66 u67 u68 u69 u70 u71 u72 u73 u74 u75 u76 u77 u78 u79 u80 u81 u82 u83 u84 u85 u86 u87 u88 u89 u90 u91 u92 u93 u94 u95 u96 u97 u98 u99 u100 u101 u102 u103 u104 u105 u106 u107 u108 : Value}
    (HK:Hid (∀(o v9 v90 v91 v92 v93 v94 v95 v96 v97 v98 v99 v100 v101 v102 v103 v104 v105 v106 v107 v108:Value) (wr:World),(xs=ys/\Kp No wx wr)->K { tmps:=#[u0,u1,.pointer (some ⟨P,0,none⟩),.pointer (some ⟨Q,0,none⟩),o,u5,u6,u7,u8,v9,u10,u11,u12,u13,u14,u15,u16,u17,u18,u19,u20,u21,u22,u23,u24,u25,u26,u27,u28,u29,u30,u31,u32,u33,u34,u35,u36,u37,u38,u39,u40,u41,u42,u43,u44,u45,u46,u47,u48,u49,u50,u51,u52,u53,u54,u55,u56,u57,u58,u59,u60,u61,u62,u63,u64,u65,u66,u67,u68,u69,u70,u71,u72,u73,u74,u75,u76,u77,u78,u79,u80,u81,u82,u83,u84,u85,u86,u87,u88,u89,v90,v91,v92,v93,v94,v95,v96,v97,v98,v99,v100,v101,v102,v103,v104,v105,v106,v107,v108],defers:=[] } wr))
    (HR:Hid (∀(o v9 v90 v91 v92 v93 v94 v95 v96 v97 v98 v99 v100 v101 v102 v103 v104 v105 v106 v107 v108:Value) (wr:World),(o = .bool false/\¬xs=ys/\Kp No wx wr)->Q' Exit.ret { tmps:=#[u0,u1,.pointer (some ⟨P,0,none⟩),.pointer (some ⟨Q,0,none⟩),o,u5,u6,u7,u8,v9,u10,u11,u12,u13,u14,u15,u16,u17,u18,u19,u20,u21,u22,u23,u24,u25,u26,u27,u28,u29,u30,u31,u32,u33,u34,u35,u36,u37,u38,u39,u40,u41,u42,u43,u44,u45,u46,u47,u48,u49,u50,u51,u52,u53,u54,u55,u56,u57,u58,u59,u60,u61,u62,u63,u64,u65,u66,u67,u68,u69,u70,u71,u72,u73,u74,u75,u76,u77,u78,u79,u80,u81,u82,u83,u84,u85,u86,u87,u88,u89,v90,v91,v92,v93,v94,v95,v96,v97,v98,v99,v100,v101,v102,v103,v104,v105,v106,v107,v108],defers:=[] } wr)) :
    ∀cc,secBlock 4 (Tryz.f25.body.getD .skip)=cc->cc.wp Tryz.prog (Exit.then K Q') { tmps:=#[u0,u1,.pointer (some ⟨P,0,none⟩),.pointer (some ⟨Q,0,none⟩),u4,u5,u6,u7,u8,.int .i64 0,u10,u11,u12,u13,u14,u15,u16,u17,u18,u19,u20,u21,u22,u23,u24,u25,u26,u27,u28,u29,u30,u31,u32,u33,u34,u35,u36,u37,u38,u39,u40,u41,u42,u43,u44,u45,u46,u47,u48,u49,u50,u51,u52,u53,u54,u55,u56,u57,u58,u59,u60,u61,u62,u63,u64,u65,u66,u67,u68,u69,u70,u71,u72,u73,u74,u75,u76,u77,u78,u79,u80,u81,u82,u83,u84,u85,u86,u87,u88,u89,u90,u91,u92,u93,u94,u95,u96,u97,u98,u99,u100,u101,u102,u103,u104,u105,u106,u107,u108],defers:=[] } w1:=by
  rintro cc rfl
  show Code.wp _ (Code.block 4 _) _ _ _
  go_wp2_with fail
  go_loopw [9] (fun i wr=>∃k:Nat,k<=n/\i = .int .i64 k/\(∀i<k,xs[i]?=ys[i]?)/\Kp No wx wr) (fun i _=>n - (intOf i).toNat)
  case atStart=>exact ⟨0,Nat.zero_le _,rfl,fun i h=>absurd h (Nat.not_lt_zero _),Hk.out⟩
  case round =>
    obtain ⟨k,hk,rfl,hsm,hkr⟩:=hrel
    have q3:(0:Int)<=(k:Int):=by omega
    have Hsm:=Lib.hid hsm
    have HkW:=Lib.hid hkr
    have p1:=hkr.cell p1 id
    have q1:=hkr.cell q1 id
    by_cases hlt:k<n
    · have q4:(k:Int)<(n:Int):=by omega
      obtain ⟨x,hx⟩:∃x,xs[k]?=some x:=⟨_,List.getElem?_eq_getElem (by rw [<- Hn.out];exact hlt)⟩
      obtain ⟨y,hy⟩:∃y,ys[k]?=some y:=⟨_,List.getElem?_eq_getElem (by rw [<- Hm.out];exact hlt)⟩
      obtain ⟨ba,oa,ua,rfl,hFa,ea,hxa⟩:=(Ha.out.kp hkr (fun _ _=>id)).get_slice hx
      obtain ⟨bb,ob,ub,rfl,hFb,eb,hyb⟩:=(Hb.out.kp hkr (fun _ _=>id)).get_slice hy
      obtain ⟨Ax,nx,cx,rfl,Hnx,hcx1,hcx2⟩:=hxa.form'
      obtain ⟨By,ny,cy,rfl,Hny,hcy1,hcy2⟩:=hyb.form'
      have Hx:=Lib.hid hx
      have Hy:=Lib.hid hy
      have Hlt:=Lib.hid hlt
      have Hxa:=Lib.hid hxa
      have Hyb:=Lib.hid hyb
      clear hx hy hlt hsm hkr hxa hyb
      go_upto_region 17 with (fail)
      refine wp_region_noPanic ?_
      refine wp_region_held_drew (S:=fun w'=>Hid (Kp No wr w')) (by kernel_rfl) (Lib.hid (Kp.refl _ _).drew) (fun hHeld=>?_)
      refine wpAnyH_take (i:=0) (oi:=?_) (v:=?_) ?_ (by kernel_rfl) (by kernel_rfl) (by kernel_rfl) (fun _ _ _ h=>h) (Or.inl ⟨?_,fun w hSw=>?_⟩) hHeld ?_
      rotate_left 2
      · (simp only [List.getElem?_toArray,List.getElem?_cons_zero];rfl)
      · rfl
      · (clear hSw;go_simp;try (with_reducible rfl))
      simp only [Act.put,List.setIfInBounds_toArray,List.set_cons_zero,List.set_cons_succ]
      refine wpAnyH_take (i:=1) (oi:=?_) (v:=?_) ?_ (by kernel_rfl) (by kernel_rfl) (by kernel_rfl) (fun _ _ _ h=>h) (Or.inl ⟨?_,fun w hSw=>?_⟩) hHeld ?_
      rotate_left 2
      · (simp only [List.getElem?_toArray,List.getElem?_cons_succ,List.getElem?_cons_zero];rfl)
      · rfl
      · (have l2:=(Hid.out hSw).cell p1 id;have l3:=(Hid.out hSw).cell q1 id;have l4:=(Hid.out hSw).cell ea id;have l5:=(Hid.out hSw).cell eb id;clear hSw;go_simp;try (with_reducible rfl))
      simp only [Act.put,List.setIfInBounds_toArray,List.set_cons_zero,List.set_cons_succ]
      refine wpAnyH_take (i:=2) (oi:=?_) (v:=?_) ?_ (by kernel_rfl) (by kernel_rfl) (by kernel_rfl) (fun _ _ _ h=>h) (Or.inl ⟨?_,fun w hSw=>?_⟩) hHeld ?_
      rotate_left 2
      · (simp only [List.getElem?_toArray,List.getElem?_cons_succ,List.getElem?_cons_zero];rfl)
      · rfl
      · (clear hSw;go_simp;try (with_reducible rfl))
      simp only [Act.put,List.setIfInBounds_toArray,List.set_cons_zero,List.set_cons_succ]
      refine wpAnyH_take (i:=3) (oi:=?_) (v:=?_) ?_ (by kernel_rfl) (by kernel_rfl) (by kernel_rfl) (fun _ _ _ h=>h) (Or.inl ⟨?_,fun w hSw=>?_⟩) hHeld ?_
      rotate_left 2
      · (simp only [List.getElem?_toArray,List.getElem?_cons_succ,List.getElem?_cons_zero];rfl)
      · rfl
      · (clear hSw;go_simp;try (with_reducible rfl))
      simp only [Act.put,List.setIfInBounds_toArray,List.set_cons_zero,List.set_cons_succ]
      refine wpAnyH_take (i:=4) (oi:=?_) (v:=?_) ?_ (by kernel_rfl) (by kernel_rfl) (by kernel_rfl) (fun _ _ _ h=>h) (Or.inl ⟨?_,fun w hSw=>?_⟩) hHeld ?_
      rotate_left 2
      · (simp only [List.getElem?_toArray,List.getElem?_cons_succ,List.getElem?_cons_zero];rfl)
      · rfl
      · (have l2:=(Hid.out hSw).cell p1 id;have l3:=(Hid.out hSw).cell q1 id;have l4:=(Hid.out hSw).cell ea id;have l5:=(Hid.out hSw).cell eb id;clear hSw;go_simp;try (with_reducible rfl))
      simp only [Act.put,List.setIfInBounds_toArray,List.set_cons_zero,List.set_cons_succ]
      refine wpAnyH_take (i:=5) (oi:=?_) (v:=?_) ?_ (by kernel_rfl) (by kernel_rfl) (by kernel_rfl) (fun _ _ _ h=>h) (Or.inl ⟨?_,fun w hSw=>?_⟩) hHeld ?_
      rotate_left 2
      · (simp only [List.getElem?_toArray,List.getElem?_cons_succ,List.getElem?_cons_zero];rfl)
      · rfl
      · (clear hSw;go_simp;try (with_reducible rfl))
      simp only [Act.put,List.setIfInBounds_toArray,List.set_cons_zero,List.set_cons_succ]
      refine wpAnyH_take (i:=6) (oi:=?_) (v:=?_) ?_ (by kernel_rfl) (by kernel_rfl) (by kernel_rfl) (fun _ _ _ h=>h) (Or.inl ⟨?_,fun w hSw=>?_⟩) hHeld ?_
      rotate_left 2
      · (simp only [List.getElem?_toArray,List.getElem?_cons_succ,List.getElem?_cons_zero];rfl)
      · rfl
      · (have l2:=(Hid.out hSw).cell p1 id;have l3:=(Hid.out hSw).cell q1 id;have l4:=(Hid.out hSw).cell ea id;have l5:=(Hid.out hSw).cell eb id;clear hSw;go_simp;try (with_reducible rfl))
      simp only [Act.put,List.setIfInBounds_toArray,List.set_cons_zero,List.set_cons_succ]
      refine wpAnyH_take (i:=7) (oi:=?_) (v:=?_) ?_ (by kernel_rfl) (by kernel_rfl) (by kernel_rfl) (fun _ _ _ h=>h) (Or.inl ⟨?_,fun w hSw=>?_⟩) hHeld ?_
      rotate_left 2
      · (simp only [List.getElem?_toArray,List.getElem?_cons_succ,List.getElem?_cons_zero];rfl)
      · rfl
      · (clear hSw;go_simp;try (with_reducible rfl))
      simp only [Act.put,List.setIfInBounds_toArray,List.set_cons_zero,List.set_cons_succ]
      refine wpAnyH_take (i:=8) (oi:=?_) (v:=?_) ?_ (by kernel_rfl) (by kernel_rfl) (by kernel_rfl) (fun _ _ _ h=>h) (Or.inl ⟨?_,fun w hSw=>?_⟩) hHeld ?_
      rotate_left 2
      · (simp only [List.getElem?_toArray,List.getElem?_cons_succ,List.getElem?_cons_zero];rfl)
      · rfl
      · (clear hSw;go_simp;try (with_reducible rfl))
      simp only [Act.put,List.setIfInBounds_toArray,List.set_cons_zero,List.set_cons_succ]
      refine wpAnyH_take (i:=9) (oi:=?_) (v:=?_) ?_ (by kernel_rfl) (by kernel_rfl) (by kernel_rfl) (fun _ _ _ h=>h) (Or.inl ⟨?_,fun w hSw=>?_⟩) hHeld ?_
      rotate_left 2
      · (simp only [List.getElem?_toArray,List.getElem?_cons_succ,List.getElem?_cons_zero];rfl)
      · rfl
      · (have l2:=(Hid.out hSw).cell p1 id;have l3:=(Hid.out hSw).cell q1 id;have l4:=(Hid.out hSw).cell ea id;have l5:=(Hid.out hSw).cell eb id;clear hSw;go_simp;try (with_reducible rfl))
      simp only [Act.put,List.setIfInBounds_toArray,List.set_cons_zero,List.set_cons_succ]
      refine wpAnyH_ready (rs:=[10]) (by kernel_rfl) (by simp) ?_
      refine AllReadyH.cons (o:=?_) ?_ (fun K hK=>?_) AllReadyH.nil
      rotate_left
      · (simp only [List.getElem?_toArray,List.getElem?_cons_succ,List.getElem?_cons_zero];rfl)
      go_simp
      refine (ref_Rules _ F G _ _ _ _ (Hxa.out.kp (Hid.out hHeld) (fun _ _=>id)) (Hyb.out.kp (Hid.out hHeld) (fun _ _=>id))).mono ?_
      rintro e w4 ⟨b,rfl,hb,hk⟩
      have Hbb:=Lib.hid hb
      have hS:=Lib.hid ((Hid.out hHeld).trans hk)
      clear hk hb
      refine hK.out _ _ hS (fun hHeld=>?_)
      clear hK K
      (try simp only [Act.put,List.setIfInBounds_toArray,List.set_cons_zero,List.set_cons_succ])
      refine wpAnyH_take (i:=11) (oi:=?_) (v:=?_) ?_ (by kernel_rfl) (by kernel_rfl) (by kernel_rfl) (fun _ _ _ h=>h) (Or.inl ⟨?_,fun w hSw=>?_⟩) hHeld ?_
      rotate_left 2
      · (simp only [List.getElem?_toArray,List.getElem?_cons_succ,List.getElem?_cons_zero];rfl)
      · rfl
      · (clear hSw;go_simp;try (with_reducible rfl))
      simp only [Act.put,List.setIfInBounds_toArray,List.set_cons_zero,List.set_cons_succ]
      refine wpAnyH_done (by kernel_rfl) (NoPanic.normal ?_) _
      have Hkf:=hHeld
      clear hHeld
      cases b with
      | true =>
        have Heq:=Lib.hid (Hbb.out.1 rfl)
        go_wp2_with fail
        go_roundw
        case rel=>exact ⟨k+1,by have:=Hlt.out;omega,by go_num,same_step Hsm.out Hx.out Hy.out Heq.out,HkW.out.trans Hkf.out⟩
        case measure=>simp [intOf];have:=Hlt.out;omega
      | false =>
        have Hne:=Lib.hid (diff_at Hx.out Hy.out (fun h=>by have:=Hbb.out.2 h;cases this))
        go_wp2_with fail
        (try simp only [Exit.inBlock,Exit.then]);refine HR.out _ _ _ _ _ _ _ _ _ _ _ _ _ _ _ _ _ _ _ _ _ _ ?_
        exact ⟨rfl,Hne.out,HkW.out.trans Hkf.out⟩
    · have q4:¬(k:Int)<(n:Int):=by omega
      have Hxy:=Lib.hid (same_all Hsm.out (by rw [<- Hn.out];omega) (by rw [<- Hm.out];omega))
      clear hlt hsm hkr
      go_wp2_with fail
      refine HK.out _ _ _ _ _ _ _ _ _ _ _ _ _ _ _ _ _ _ _ _ _ _ ?_
      exact ⟨Hxy.out,HkW.out⟩
set_option maxRecDepth 100000 in
set_option maxHeartbeats 4000000 in
theorem ref_Same (w:World) (F G:Nat->Prop) (c d:Cfg) (v1 v2 v3 v4 u1 u2 u3 u4:Value) (hv1:SliceAt ptR.slice w F c.ports v1) (hv2:SliceAt prR w F c.peers v2) (hv3:SliceAt wyR w F c.ways v3) (hv4:SliceAt rlR.slice.slice w F c.tables v4) (hu1:SliceAt ptR.slice w G d.ports u1) (hu2:SliceAt prR w G d.peers u2) (hu3:SliceAt wyR w G d.ways u3) (hu4:SliceAt rlR.slice.slice w G d.tables u4) :
  Calls Tryz.prog 25 #[.agg #[v1,.int .i64 (i64of c.tenants),v2,v3,v4],.agg #[u1,.int .i64 (i64of d.tenants),u2,u3,u4]] w fun e w'=>SameOut w w' (c=d) e:=by
 obtain ⟨A1,n1,k1,rfl,HA1,hbA1,hcA1⟩:=hv1.form'
 obtain ⟨A2,n2,k2,rfl,HA2,hbA2,hcA2⟩:=hv2.form'
 obtain ⟨A3,n3,k3,rfl,HA3,hbA3,hcA3⟩:=hv3.form'
 obtain ⟨A4,n4,k4,rfl,HA4,hbA4,hcA4⟩:=hv4.form'
 obtain ⟨B1,m1,l1,rfl,HB1,hbB1,hcB1⟩:=hu1.form'
 obtain ⟨B2,m2,l2,rfl,HB2,hbB2,hcB2⟩:=hu2.form'
 obtain ⟨B3,m3,l3,rfl,HB3,hbB3,hcB3⟩:=hu3.form'
 obtain ⟨B4,m4,l4,rfl,HB4,hbB4,hcB4⟩:=hu4.form'
 have hT:(i64of c.tenants=i64of d.tenants)=(c.tenants=d.tenants):=i64of_eq _ _
 generalize i64of c.tenants=T1 at hT ⊢
 generalize i64of d.tenants=T2 at hT ⊢
 have HT:=Lib.hid hT
 clear hT
 obtain ⟨wx,hwx⟩:∃wx,wx=(w.alloc (.cells #[.slice A1 n1 k1,.int .i64 T1,.slice A2 n2 k2,.slice A3 n3 k3,.slice A4 n4 k4] 34)).alloc (.cells #[.slice B1 m1 l1,.int .i64 T2,.slice B2 m2 l2,.slice B3 m3 l3,.slice B4 m4 l4] 34):=⟨_,rfl⟩
 have hk0:Kp No w wx:=by rw [hwx];exact ((Kp.refl No w).alloc _).alloc _
 obtain ⟨q,hq⟩:∃q,q=w.heap.size:=⟨_,rfl⟩
 have r1:wx.heap[q]?=some (.cells #[.slice A1 n1 k1,.int .i64 T1,.slice A2 n2 k2,.slice A3 n3 k3,.slice A4 n4 k4] 34 (0,0)):=by rw [hwx,hq];exact ((Kp.refl No _).alloc _).heap (heap_alloc_new w _) id
 have r2:wx.heap[q+1]?=some (.cells #[.slice B1 m1 l1,.int .i64 T2,.slice B2 m2 l2,.slice B3 m3 l3,.slice B4 m4 l4] 34 (0,0)):=by
  have:=heap_alloc_new (w.alloc (.cells #[.slice A1 n1 k1,.int .i64 T1,.slice A2 n2 k2,.slice A3 n3 k3,.slice A4 n4 k4] 34)) (.cells #[.slice B1 m1 l1,.int .i64 T2,.slice B2 m2 l2,.slice B3 m3 l3,.slice B4 m4 l4] 34)
  rw [alloc_size,<- hq] at this
  rw [hwx];exact this
 have a0:wx.cell? ⟨q,0,none⟩=some (.slice A1 n1 k1):=cell_of_row _ _ 0 _ _ _ r1
 have a1:wx.cell? ⟨q,1,none⟩=some (.int .i64 T1):=cell_of_row _ _ 1 _ _ _ r1
 have a2:wx.cell? ⟨q,2,none⟩=some (.slice A2 n2 k2):=cell_of_row _ _ 2 _ _ _ r1
 have a3:wx.cell? ⟨q,3,none⟩=some (.slice A3 n3 k3):=cell_of_row _ _ 3 _ _ _ r1
 have a4:wx.cell? ⟨q,4,none⟩=some (.slice A4 n4 k4):=cell_of_row _ _ 4 _ _ _ r1
 have af:∀o,wx.frozen? ⟨q,o,none⟩=false:=fun o=>frz_of_row _ _ o _ _ r1
 have b0:wx.cell? ⟨q+1,0,none⟩=some (.slice B1 m1 l1):=cell_of_row _ _ 0 _ _ _ r2
 have b1:wx.cell? ⟨q+1,1,none⟩=some (.int .i64 T2):=cell_of_row _ _ 1 _ _ _ r2
 have b2:wx.cell? ⟨q+1,2,none⟩=some (.slice B2 m2 l2):=cell_of_row _ _ 2 _ _ _ r2
 have b3:wx.cell? ⟨q+1,3,none⟩=some (.slice B3 m3 l3):=cell_of_row _ _ 3 _ _ _ r2
 have b4:wx.cell? ⟨q+1,4,none⟩=some (.slice B4 m4 l4):=cell_of_row _ _ 4 _ _ _ r2
 have bf:∀o,wx.frozen? ⟨q+1,o,none⟩=false:=fun o=>frz_of_row _ _ o _ _ r2
 have Hv1:=Lib.hid (hv1.kp hk0 (fun _ _=>id))
 have Hu1:=Lib.hid (hu1.kp hk0 (fun _ _=>id))
 have Hv2:=Lib.hid (hv2.kp hk0 (fun _ _=>id))
 have Hu2:=Lib.hid (hu2.kp hk0 (fun _ _=>id))
 have Hv3:=Lib.hid (hv3.kp hk0 (fun _ _=>id))
 have Hu3:=Lib.hid (hu3.kp hk0 (fun _ _=>id))
 have Hv4:=Lib.hid (hv4.kp hk0 (fun _ _=>id))
 have Hu4:=Lib.hid (hu4.kp hk0 (fun _ _=>id))
 have Hk0:=Lib.hid hk0
 have Hwx:=Lib.hid hwx
 have Hq:=Lib.hid hq
 clear hv1 hv2 hv3 hv4 hu1 hu2 hu3 hu4 hk0 hwx hq r1 r2 af bf
 go_enter Tryz.func25,Tryz.ntmps25
 go_upto_region 1 with (fail)
 rw [<- Hwx.out,<- Hq.out]
 refine same_r1 wx q (q+1) T1 T2 A2 B2 A3 B3 n2 k2 m2 l2 n3 k3 m3 l3 a1 a2 a3 b1 b2 b3 (Lib.hid ?_) _ rfl
 intro o o2 v10 v11 v12 v13 wr hrel
 obtain ⟨P,Q,rfl,rfl,hP,hQ,hk⟩:=hrel
 have a0:=hk.cell a0 id
 have a4:=hk.cell a4 id
 have b0:=hk.cell b0 id
 have b4:=hk.cell b4 id
 have p0:wr.cell? ⟨P,0,none⟩=some (.int .i64 T1):=cell_of_row _ _ 0 _ _ _ hP
 have p1:wr.cell? ⟨P,1,none⟩=some (.slice A2 n2 k2):=cell_of_row _ _ 1 _ _ _ hP
 have p2:wr.cell? ⟨P,2,none⟩=some (.slice A3 n3 k3):=cell_of_row _ _ 2 _ _ _ hP
 have pf:∀o,wr.frozen? ⟨P,o,none⟩=false:=fun o=>frz_of_row _ _ o _ _ hP
 have q0:wr.cell? ⟨Q,0,none⟩=some (.int .i64 T2):=cell_of_row _ _ 0 _ _ _ hQ
 have q1:wr.cell? ⟨Q,1,none⟩=some (.slice B2 m2 l2):=cell_of_row _ _ 1 _ _ _ hQ
 have q2:wr.cell? ⟨Q,2,none⟩=some (.slice B3 m3 l3):=cell_of_row _ _ 2 _ _ _ hQ
 have qf:∀o,wr.frozen? ⟨Q,o,none⟩=false:=fun o=>frz_of_row _ _ o _ _ hQ
 have Hv1:=Lib.hid (Hv1.out.kp hk (fun _ _=>id))
 have Hu1:=Lib.hid (Hu1.out.kp hk (fun _ _=>id))
 have Hv2:=Lib.hid (Hv2.out.kp hk (fun _ _=>id))
 have Hu2:=Lib.hid (Hu2.out.kp hk (fun _ _=>id))
 have Hv3:=Lib.hid (Hv3.out.kp hk (fun _ _=>id))
 have Hu3:=Lib.hid (Hu3.out.kp hk (fun _ _=>id))
 have Hv4:=Lib.hid (Hv4.out.kp hk (fun _ _=>id))
 have Hu4:=Lib.hid (Hu4.out.kp hk (fun _ _=>id))
 have Hk1:=Lib.hid (Hk0.out.trans hk)
 clear hk hP hQ pf qf a1 a2 a3 b1 b2 b3
 obtain ⟨wo,hwo⟩:∃wo:World,wo=wr:=⟨_,rfl⟩
 subst hwo
 go_upto_region 2 with (fail)
 refine same_r2 wo F G c.ports d.ports _ _ Hv1 Hu1 P Q q (q+1) T1 T2 A2 B2 A3 B3 A4 B4 n2 k2 m2 l2 n3 k3 m3 l3 n4 k4 m4 l4 p0 p1 p2 q0 q1 q2 a0 b0 a4 b4 (Lib.hid ?_) _ rfl
 intro v14 v15 v16 v17 v18 v19 v20 v21 v22 v23 v24 v25 v26 v27 v28 v29 v30 v31 v32 v33 v34 v35 v36 v37 v38 v39 v40 v41 v42 v43 v44 v45 v46 v47 v48 v49 v50 v51 v52 o wr hrel
 obtain ⟨b,rfl,hb,hk⟩:=hrel
 have Hk2:=Lib.hid hk
 clear hk
 cases b with
 | true =>
  have Hne:=Lib.hid (show ¬c=d from fun h=>by
   have:=hb.2 (by
    subst h
    exact ⟨rfl,HT.out.mpr rfl,HA2.out.trans HB2.out.symm,HA3.out.trans HB3.out.symm,HA4.out.trans HB4.out.symm⟩)
   cases this)
  clear hb
  go_wp2_with fail
  go_ret
  exact ⟨false,rfl,⟨(fun h=>by cases h),fun h=>(Hne.out h).elim⟩,Hk1.out.trans Hk2.out⟩
 | false =>
  obtain ⟨e1,e2,e3,e4,e5⟩:=hb.1 rfl
  have E1:=Lib.hid e1
  have E2:=Lib.hid (HT.out.mp e2)
  clear hb e1 e2
  subst e3 e4 e5
  go_upto_block 0 with (fail)
  refine same_peers wo wr F G c.peers d.peers A2 B2 n2 k2 l2 P Q Hv2 Hu2 HA2 HB2 hbA2 hcA2 hbB2 hcB2 p1 q1 Hk2 (Lib.hid ?_) (Lib.hid ?_) _ rfl
  rotate_left
  ·intro o v7 v54 v55 v56 v57 v58 v59 v60 v61 v62 v63 v64 v65 v66 v67 v68 v69 v70 v71 wr hret
   obtain ⟨rfl,hne,hk⟩:=hret
   go_ret
   exact ⟨false,rfl,⟨(fun h=>by cases h),fun h=>(hne (by rw [h])).elim⟩,Hk1.out.trans hk⟩
  intro o v7 v54 v55 v56 v57 v58 v59 v60 v61 v62 v63 v64 v65 v66 v67 v68 v69 v70 v71 wr hrel
  obtain ⟨e2,hk3⟩:=hrel
  have E3:=Lib.hid e2
  have Hk3:=Lib.hid hk3
  clear e2 hk3
  go_upto_block 2 with (fail)
  refine same_ways wo wr F G c.ways d.ways A3 B3 n3 k3 l3 P Q Hv3 Hu3 HA3 HB3 hbA3 hcA3 hbB3 hcB3 p2 q2 Hk3 (Lib.hid ?_) (Lib.hid ?_) _ rfl
  rotate_left
  ·intro o v8 v72 v73 v74 v75 v76 v77 v78 v79 v80 v81 v82 v83 v84 v85 v86 v87 v88 v89 wr hret
   obtain ⟨rfl,hne,hk⟩:=hret
   go_ret
   exact ⟨false,rfl,⟨(fun h=>by cases h),fun h=>(hne (by rw [h])).elim⟩,Hk1.out.trans hk⟩
  intro o v8 v72 v73 v74 v75 v76 v77 v78 v79 v80 v81 v82 v83 v84 v85 v86 v87 v88 v89 wr hrel
  obtain ⟨e2,hk4⟩:=hrel
  have E4:=Lib.hid e2
  have Hk4:=Lib.hid hk4
  clear e2 hk4
  go_upto_block 4 with (fail)
  refine same_tables wo wr F G c.tables d.tables A4 B4 n4 k4 l4 q (q+1) Hv4 Hu4 HA4 HB4 hbA4 hcA4 hbB4 hcB4 a4 b4 Hk4 (Lib.hid ?_) (Lib.hid ?_) _ rfl
  rotate_left
  ·intro o v9 v90 v91 v92 v93 v94 v95 v96 v97 v98 v99 v100 v101 v102 v103 v104 v105 v106 v107 v108 wr hret
   obtain ⟨rfl,hne,hk⟩:=hret
   go_ret
   exact ⟨false,rfl,⟨(fun h=>by cases h),fun h=>(hne (by rw [h])).elim⟩,Hk1.out.trans hk⟩
  intro o v9 v90 v91 v92 v93 v94 v95 v96 v97 v98 v99 v100 v101 v102 v103 v104 v105 v106 v107 v108 wr hrel
  obtain ⟨e2,hk5⟩:=hrel
  have E5:=Lib.hid e2
  have Hk5:=Lib.hid hk5
  clear e2 hk5
  go_wp2_with fail
  go_ret
  refine ⟨true,rfl,⟨fun _=>?_,fun _=>rfl⟩,Hk1.out.trans Hk5.out⟩
  have g1:=E1.out
  have g2:=E2.out
  have g3:=E3.out
  have g4:=E4.out
  have g5:=E5.out
  cases c
  cases d
  simp only at g1 g2 g3 g4 g5
  subst g1 g2 g3 g4 g5
  rfl
end Go.Proofs.YthgbdoofchknhaaGreatDoor
end
section
namespace Go.Proofs.YthgbdoofchknhaaGreatDoor
open Go.RowKit
theorem line_i:i64of 0=0/\i64of 1=1/\i64of 2=2/\i64of 3=3:=⟨i64of_small (n:=0) (by omega),i64of_small (n:=1) (by omega),i64of_small (n:=2) (by omega),i64of_small (n:=3) (by omega)⟩
def zeroC:Cfg:=⟨[],0,[],[],[]⟩
def zeroCV:Value:=.agg #[.slice none 0 0,.int .i64 0,.slice none 0 0,.slice none 0 0,.slice none 0 0]
theorem isEnc_inj {α:Type} {fit:α->Bool} {words:α->List UInt64} {rd:RS->α × RS} (hr:∀x,fit x=true->Reads rd words x) {x y:α} {l:List UInt8} (hx:IsEnc fit words x l) (hy:IsEnc fit words y l):x=y:=by
 have e:=(isEnc_read hr hx).symm.trans (isEnc_read hr hy)
 injection e
end Go.Proofs.YthgbdoofchknhaaGreatDoor
namespace Go.Proofs.YthgbdoofchknhaaGreatDoor.Sm
open Go.RowKit
def encPt (x:Pt):List AV:=[.i .i64 (i64of x.kind),.i .i64 (i64of x.tenant),.i .i64 (i64of x.peer),.i .i64 (i64of x.at_),.i .i64 (i64of x.cost)]
def encWy (x:Wy):List AV:=[.i .i64 (i64of x.fro),.i .i64 (i64of x.to),.i .i64 (i64of x.via)]
def encPr (x:Pr):List AV:=[.i .i64 (i64of x.a),.i .i64 (i64of x.b)]
def encRl (x:Rl):List AV:=[.i .i64 (i64of x.prio),.u x.mat.value.hi,.u x.mat.value.lo,.u x.mat.care.hi,.u x.mat.care.lo,.i .i64 (i64of x.act.kind),.i .i64 (i64of x.act.port),.i .i64 (i64of x.act.table),.u x.act.set.value.hi,.u x.act.set.value.lo,.u x.act.set.care.hi,.u x.act.set.care.lo]
theorem encPt_ok:Enc ptR encPt:=Enc.plain fun _=>rfl
theorem encWy_ok:Enc wyR encWy:=Enc.plain fun _=>rfl
theorem encPr_ok:Enc prR encPr:=Enc.plain fun _=>rfl
theorem encRl_ok:Enc rlR encRl:=Enc.plain fun _=>rfl
def encPts (l:List Pt):List AV:=[.sl (l.map encPt)]
def encRls (l:List Rl):List AV:=[.sl (l.map encRl)]
def encTab (t:List (List Rl)):List AV:=[.sl (t.map encRls)]
theorem encPts_ok:Enc ptR.slice encPts:=encPt_ok.slice (by show 0<5;omega)
theorem encRls_ok:Enc rlR.slice encRls:=encRl_ok.slice (by show 0<12;omega)
theorem encTab_ok:Enc rlR.slice.slice encTab:=encRls_ok.slice (by show 0<1;omega)
def cfgC (c:Cfg):List AV:=[.sl (c.ports.map encPts),.i .i64 (i64of c.tenants),.sl (c.peers.map encPr),.sl (c.ways.map encWy),.sl (c.tables.map encTab)]
section
variable {W : World} {F : Nat -> Prop} {v : Value}
theorem cfg_of {c:Cfg} (h:PRel W F (.agg (cfgC c)) v):∃v1 v2 v3 v4,v = .agg #[v1,.int .i64 (i64of c.tenants),v2,v3,v4]/\SliceAt ptR.slice W F c.ports v1/\SliceAt prR W F c.peers v2/\SliceAt wyR W F c.ways v3/\SliceAt rlR.slice.slice W F c.tables v4:=by
 obtain ⟨vs,rfl,hl,hp⟩:=h.agg_inv
 match vs,hl with
 | [v1,t,v2,v3,v4],_ =>
  have ht:=hp 1 _ t rfl rfl
  have e:=val_eq' rfl ht
  subst e
  exact ⟨v1,v2,v3,v4,rfl,encPts_ok.slice_of (by show 0<1;omega) (hp 0 _ _ rfl rfl),encPr_ok.slice_of (by show 0<2;omega) (hp 2 _ _ rfl rfl),encWy_ok.slice_of (by show 0<3;omega) (hp 3 _ _ rfl rfl),encTab_ok.slice_of (by show 0<1;omega) (hp 4 _ _ rfl rfl)⟩
theorem cfg_to {c:Cfg} {v1 v2 v3 v4:Value} (h1:SliceAt ptR.slice W F c.ports v1) (h2:SliceAt prR W F c.peers v2) (h3:SliceAt wyR W F c.ways v3) (h4:SliceAt rlR.slice.slice W F c.tables v4):PRel W F (.agg (cfgC c)) (.agg #[v1,.int .i64 (i64of c.tenants),v2,v3,v4]) :=
 .agg (cfgC c) [v1,.int .i64 (i64of c.tenants),v2,v3,v4] rfl (all_one rfl) (pw_cons (encPts_ok.sl h1) (pw_cons (.i _ _) (pw_cons (encPr_ok.sl h2) (pw_cons (encWy_ok.sl h3) (pw_cons (encTab_ok.sl h4) pw_nil)))))
theorem cfgC_zero:PRel W F (.agg (cfgC zeroC)) zeroCV:=by
 have h:=cfg_to (c:=zeroC) (SliceAt.nil ptR.slice W F) (SliceAt.nil prR W F) (SliceAt.nil wyR W F) (SliceAt.nil rlR.slice.slice W F)
 rw [show zeroC.tenants=0 from rfl,line_i.1] at h
 exact h
end
theorem d_Config_yes (c:Cfg) (h:c.fit=true):PDoes Tryz.prog 20 [.agg (cfgC c)] (.tup [.sl (byteEls (sealW c.words)),.i .i64 0]) :=
  .mk1 ⟨_,_,Tryz.func20,rfl,by kernel_rfl⟩ fun W F v hv hF=>by
    obtain ⟨v1,v2,v3,v4,rfl,h1,h2,h3,h4⟩:=cfg_of hv
    refine (wir_Config W F c v1 v2 v3 v4 h1 h2 h3 h4 hF).mono ?_
    rintro e W' ⟨hk,⟨h1,_⟩ | ⟨_,u,rfl,hu⟩⟩
    · rw [h] at h1;cases h1
    · exact ⟨_,rfl,hk,.tup2 (bytes_to hu).new (.i _ _)⟩
theorem d_Config_no (c:Cfg) (h:c.fit=false):PDoes Tryz.prog 20 [.agg (cfgC c)] (.tup [.raw (.slice none 0 0),.i .i64 4]) :=
  .mk1 ⟨_,_,Tryz.func20,rfl,by kernel_rfl⟩ fun W F v hv hF=>by
    obtain ⟨v1,v2,v3,v4,rfl,h1,h2,h3,h4⟩:=cfg_of hv
    refine (wir_Config W F c v1 v2 v3 v4 h1 h2 h3 h4 hF).mono ?_
    rintro e W' ⟨hk,⟨_,rfl⟩ | ⟨h1,_⟩⟩
    · exact ⟨_,rfl,hk,.tup2 (.raw _) (.i _ _)⟩
    · rw [h] at h1;cases h1
theorem d_ReadConfig_yes (l:List UInt8) (x:Cfg) (h:IsEnc Cfg.fit Cfg.words x l) (hr:∀y,Cfg.fit y=true->Reads rdCfg Cfg.words y) (hb:l.length<=140737488355328):PDoes Tryz.prog 58 [.sl (byteEls l)] (.tup [.agg (cfgC x),.i .i64 0]) :=
  .mk1 ⟨_,_,Tryz.func58,rfl,by kernel_rfl⟩ fun W F v hv hF=>by
    refine (wir_ReadConfig W F l v (bytes_of hv) hF hb).mono ?_
    rintro e W' ⟨hk,⟨y,hy,v1,v2,v3,v4,rfl,h1,h2,h3,h4⟩ | ⟨hn,_⟩⟩
    · obtain rfl:=isEnc_inj hr h hy
      exact ⟨_,rfl,hk,.tup2 (cfg_to h1 h2 h3 h4).new (.i _ _)⟩
    · exact (hn ⟨x,h⟩).elim
theorem d_ReadConfig_no (l:List UInt8) (h:¬∃x,IsEnc Cfg.fit Cfg.words x l) (hb:l.length<=140737488355328):PDoes Tryz.prog 58 [.sl (byteEls l)] (.tup [.agg (cfgC zeroC),.i .i64 2]) :=
  .mk1 ⟨_,_,Tryz.func58,rfl,by kernel_rfl⟩ fun W F v hv hF=>by
    refine (wir_ReadConfig W F l v (bytes_of hv) hF hb).mono ?_
    rintro e W' ⟨hk,⟨y,hy,_⟩ | ⟨_,rfl⟩⟩
    · exact (h ⟨y,hy⟩).elim
    · exact ⟨_,rfl,hk,.tup2 (cfgC_zero).new (.i _ _)⟩
theorem d_Same (c d:Cfg) (b:Bool) (hb:b=true↔c=d):PDoes Tryz.prog 25 [.agg (cfgC c),.agg (cfgC d)] (.b b) :=
  .mk2 ⟨_,_,Tryz.func25,rfl,by kernel_rfl⟩ fun W F v u hv hu hF=>by
    obtain ⟨v1,v2,v3,v4,rfl,h1,h2,h3,h4⟩:=cfg_of hv
    obtain ⟨u1,u2,u3,u4,rfl,g1,g2,g3,g4⟩:=cfg_of hu
    refine (ref_Same W F F c d v1 v2 v3 v4 u1 u2 u3 u4 h1 h2 h3 h4 g1 g2 g3 g4).mono ?_
    rintro e W' ⟨b',rfl,hb',hk⟩
    obtain rfl:b'=b:=Bool.eq_iff_iff.2 (hb'.trans hb.symm)
    exact ⟨_,rfl,hk,.b _⟩
end Go.Proofs.YthgbdoofchknhaaGreatDoor.Sm
end
section
section
namespace Go.Proofs.YthgbdoofchknhaaGreatDoor.Sm
open Go.RowKit
inductive Rm (π:List (Nat × Nat)) (σ σ':Sto):AV->AV->Prop where
 | any (x:AV):Rm π σ σ' x .any
 | pu {x:AV} (h:x.pu1=true):Rm π σ σ' x x
 | nil:Rm π σ σ' (.raw (.slice none 0 0)) (.sl [])
 | ref {id id' ep ep':Nat} {k:RK} {bd bd':Body} (hm:(id,id')∈π) (h:σ id=⟨ep,some bd⟩) (h':σ' id'=⟨ep',some bd'⟩):Rm π σ σ' (.ref id ep k) (.ref id' ep' k)
 | fn {f:FuncId} {a a' c c':List AV} (hl:a'.length=a.length) (hl':c'.length=c.length) (h:∀(j:Nat) (x x':AV),a[j]?=some x->a'[j]?=some x'->Rm π σ σ' x x') (h':∀(j:Nat) (x x':AV),c[j]?=some x->c'[j]?=some x'->Rm π σ σ' x x'):Rm π σ σ' (.fn f a c) (.fn f a' c')
 | own {id id' ep ep' off:Nat} {bd bd':Body} (hm:(id,id')∈π) (h:σ id=⟨ep,some bd⟩) (h':σ' id'=⟨ep',some bd'⟩):Rm π σ σ' (.own id ep off) (.own id' ep' off)
 | row {id id' ep ep' off n t m:Nat} {els:List (List AV)} (hm:(id,id')∈π) (h:σ id=⟨ep,some (.row t m els)⟩) (h':σ' id'=⟨ep',some (.row t m els)⟩):Rm π σ σ' (.row id ep off n) (.row id' ep' off n)
 | agg {cs cs':List AV} (hl:cs'.length=cs.length) (h1:∀(j:Nat) (x:AV),cs'[j]?=some x->x.one=true) (h:∀(j:Nat) (x x':AV),cs[j]?=some x->cs'[j]?=some x'->Rm π σ σ' x x'):Rm π σ σ' (.agg cs) (.agg cs')
 | tup {cs cs':List AV} (hl:cs'.length=cs.length) (h:∀(j:Nat) (x x':AV),cs[j]?=some x->cs'[j]?=some x'->Rm π σ σ' x x'):Rm π σ σ' (.tup cs) (.tup cs')
theorem Rm.is {π:List (Nat × Nat)} {σ σ':Sto} {x y:AV} (e:x=y) (h:y.pu1=true):Rm π σ σ' x y:=by subst e;exact .pu h
theorem Rm.rel {W:World} {F:Nat->Prop} {π:List (Nat × Nat)} {μ μ':Mu} {σ σ':Sto} (hμ:∀p∈π,μ' p.2=μ p.1) {x x':AV} (h:Rm π σ σ' x x'):∀{v:Value},Rel W F μ σ x v->Rel W F μ' σ' x' v:=by
  induction h with
  | any x=>exact fun _=>.any _
  | pu h=>exact fun hx=>.pure (pu1_rel h hx)
  | nil =>
    intro v hx
    rw [hx.raw']
    exact .pure (nil_sl _ _)
  | @ref id id' ep ep' k bd bd' hm h h' =>
    intro v hx
    cases hx with
    | pure hx=>cases hx
    | ref _ _ _ _ he h1 hv =>
      obtain ⟨b,c,hb,rfl⟩:=hv _ h
      exact .ref _ _ _ _ (by rw [h'];exact Nat.le_refl _) h1 fun _ _=>⟨b,c,(hμ _ hm).trans hb,rfl⟩
  | @fn f a a' c c' hl hl' h h' ih ih' =>
    intro v hx
    obtain ⟨fs,cs,rfl,hf,hc,hr,hr'⟩:=hx.fn'
    refine .fn _ _ _ _ _ (by rw [hf,hl]) (by rw [hc,hl']) (fun j x' v hj hv=>?_) (fun j x' v hj hv=>?_)
    · obtain ⟨x,hxj⟩:∃x,a[j]?=some x:=⟨_,List.getElem?_eq_getElem (by rw [<- hl];exact (List.getElem?_eq_some_iff.1 hj).1)⟩
      exact ih j x x' hxj hj (hr j x v hxj hv)
    · obtain ⟨x,hxj⟩:∃x,c[j]?=some x:=⟨_,List.getElem?_eq_getElem (by rw [<- hl'];exact (List.getElem?_eq_some_iff.1 hj).1)⟩
      exact ih' j x x' hxj hj (hr' j x v hxj hv)
  | @own id id' ep ep' off bd bd' hm h h' =>
    intro v hx
    cases hx with
    | pure hx=>cases hx
    | own _ _ _ _ he h1 hv =>
      obtain ⟨b,c,hb,rfl⟩:=hv _ h
      exact .own _ _ _ _ (by rw [h'];exact Nat.le_refl _) rfl fun _ _=>⟨b,c,(hμ _ hm).trans hb,rfl⟩
  | @row id id' ep ep' off n t m els hm h h' =>
    intro v hx
    cases hx with
    | pure hx=>cases hx
    | row _ _ _ _ _ he h1 hv =>
      have hv:=hv _ _ _ h rfl
      refine .row _ _ _ _ _ (by rw [h'];exact Nat.le_refl _) h1 fun bd1 m1 l1 h2 hL=>?_
      rw [h'] at h2
      simp only [SB.mk.injEq,Option.some.injEq,true_and] at h2
      subst h2
      simp only [Body.rowL,Option.some.injEq,Prod.mk.injEq] at hL
      have e:=hμ _ hm
      simp only at e
      rw [<- hL.1,<- hL.2,e]
      exact hv
  | @agg cs cs' hl h1 h ih =>
    intro v hx
    obtain ⟨vs,rfl,hlv,_,hr⟩:=hx.agg'
    refine .agg _ _ (by rw [hlv,hl]) h1 fun j x' v hj hv=>?_
    obtain ⟨x,hxj⟩:∃x,cs[j]?=some x:=⟨_,List.getElem?_eq_getElem (by rw [<- hl];exact (List.getElem?_eq_some_iff.1 hj).1)⟩
    exact ih j x x' hxj hj (hr j x v hxj hv)
  | @tup cs cs' hl h ih =>
    intro v hx
    obtain ⟨vs,rfl,hlv,hr⟩:=hx.tup'
    refine .tup _ _ (by rw [hlv,hl]) fun j x' v hj hv=>?_
    obtain ⟨x,hxj⟩:∃x,cs[j]?=some x:=⟨_,List.getElem?_eq_getElem (by rw [<- hl];exact (List.getElem?_eq_some_iff.1 hj).1)⟩
    exact ih j x x' hxj hj (hr j x v hxj hv)
structure MDoes (P:Program) (f:FuncId) (args:List AV) (b0:List (Nat × SB)) (r:AV) (b1:List (Nat × SB)):Prop where
 fn : ∃ fn c, P.funcs[f]? = some fn /\ fn.body = some c /\ (fn.name == "runtime.NumGoroutine") = false
 calls:∀(W:World) (F:Nat->Prop) (μ:Mu) (vs:List Value),vs.length=args.length->(∀(j:Nat) (x:AV) (v:Value),args[j]?=some x->vs[j]?=some v->Rel W F μ (lkB b0) x v)->Inv W F μ (lkB b0) ->
  Calls P f vs.toArray W fun e W'=>∃v F' μ',e = .returned v/\Inv W' F' μ' (lkB b1)/\Stq W F μ (lkB b0) W' F' μ' (lkB b1)/\Rel W' F' μ' (lkB b1) r v
def retM (P:Program) (fn:Func) (r:AV) (b1:List (Nat × SB)) (e:Exit) (s:St):Prop:=(e = .normal\/e = .ret)/\∃x,ResOk P fn s x/\Rm (b1.map fun p=>(p.1,p.1)) s.σ (lkB b1) x r/\WkB s (lkB b1) b1
def stM (args:List AV) (b0:List (Nat × SB)):St:=⟨fun t=>args.getD t (.tup []),lkB b0⟩
theorem MDoes.of_body {P : Program} {f : FuncId} {fn : Func} {c : Code} {args : List AV} {b0 b1 : List (Nat × SB)} {r : AV} {N : Nat} (hf : P.funcs[f]? = some fn) (hb : fn.body = some c) (hn : (fn.name == "runtime.NumGoroutine") = false) (hN : fn.ntmps = N) (hlen : Nat.ble args.length N = true)
    (h:AW P N c (retM P fn r b1) (stM args b0)):MDoes P f args b0 r b1:=by
  subst hN
  have hlen:=Nat.le_of_ble_eq_true hlen
  refine ⟨⟨fn,c,hf,hb,hn⟩,fun W F μ vs hl hv hi=>?_⟩
  have hr:RS fn.ntmps W F μ (stM args b0) { tmps:=vs.toArray++Array.replicate (fn.ntmps - vs.toArray.size) undef,defers:=[] }:=by
    refine ⟨fun t=>?_,.nil,by simp;omega,hi⟩
    show Rel W F _ _ (args.getD t (.tup [])) _
    rw [Array.getD_eq_getD_getElem?,Array.getElem?_append,List.getD_eq_getElem?_getD]
    by_cases ht:t<args.length
    · have h1:args[t]?=some args[t]:=List.getElem?_eq_getElem ht
      have h2:vs[t]?=some vs[t]:=List.getElem?_eq_getElem (by omega)
      rw [if_pos (by simp;omega),List.getElem?_toArray,h1,h2]
      exact hv t _ _ h1 h2
    · rw [if_neg (by simp;omega),List.getElem?_eq_none (by omega)]
      have:(Array.replicate (fn.ntmps - vs.toArray.size) undef)[t - vs.toArray.size]?.getD undef=undef:=by
        rw [Array.getElem?_replicate]
        split <;> rfl
      rw [this]
      exact .pure (.tup [] [] rfl (by simp))
  refine calls_left hf hb (h W F μ _ hr) (fun _ _ h=>h.1) ?_
  rintro e W' F' μ' s' a' ⟨he,x,hres,hx,hB⟩ hr' hs
  obtain ⟨v,hrun,hxv⟩:=hres W' F' μ' a' hr'
  have hwk:Wk s' ⟨fun _=>.any,lkB b1⟩:=⟨fun _=>.any _,wkB_ok hB⟩
  have hrs:=hwk.rs hr'
  have hfin:Stq W F μ (lkB b0) W' F' μ' (lkB b1):=hs.trans (hwk.stp W' F' μ')
  have hrel:Rel W' F' μ' (lkB b1) r v:=hx.rel (fun p hp=>by
    obtain ⟨q,_,rfl⟩:=List.mem_map.1 hp
    rfl) hxv
  exact ⟨v,hrun,v,F',μ',rfl,hrs.inv,hfin,hrel⟩
end Go.Proofs.YthgbdoofchknhaaGreatDoor.Sm
end
section
namespace Go.Proofs.YthgbdoofchknhaaGreatDoor.Sm
open Go.RowKit
theorem Rm.congr {π:List (Nat × Nat)} {σ σ2 σ':Sto} (hσ:∀p∈π,σ2 p.1=σ p.1) {x x':AV} (h:Rm π σ σ' x x'):Rm π σ2 σ' x x':=by
 induction h with
 | any x=>exact .any x
 | pu h=>exact .pu h
 | nil=>exact .nil
 | ref hm h h'=>exact .ref hm ((hσ _ hm).trans h) h'
 | fn hl hl' _ _ ih ih'=>exact .fn hl hl' ih ih'
 | own hm h h'=>exact .own hm ((hσ _ hm).trans h) h'
 | row hm h h'=>exact .row hm ((hσ _ hm).trans h) h'
 | agg hl h1 _ ih=>exact .agg hl h1 ih
 | tup hl _ ih=>exact .tup hl ih
inductive RmB (π:List (Nat × Nat)) (σ σ':Sto):Body->Body->Prop where
 | box {t:TypeId} {cs cs':List AV} (hl:cs'.length=cs.length) (h1:∀(j:Nat) (x:AV),cs'[j]?=some x->x.one=true) (h:∀(j:Nat) (x x':AV),cs[j]?=some x->cs'[j]?=some x'->Rm π σ σ' x x'):RmB π σ σ' (.box t cs) (.box t cs')
 | row (t:TypeId) (m:Nat) (els:List (List AV)):RmB π σ σ' (.row t m els) (.row t m els)
 | obj (o:Obj):RmB π σ σ' (.obj o) (.obj o)
theorem RmB.congr {π:List (Nat × Nat)} {σ σ2 σ':Sto} (hσ:∀p∈π,σ2 p.1=σ p.1) {x x':Body} (h:RmB π σ σ' x x'):RmB π σ2 σ' x x':=by
 cases h with
 | box hl h1 h=>exact .box hl h1 fun j x x' g g'=>(h j x x' g g').congr hσ
 | row t m els=>exact .row t m els
 | obj o=>exact .obj o
theorem RmB.rel {W:World} {F:Nat->Prop} {π:List (Nat × Nat)} {μ μ':Mu} {σ σ':Sto} (hμ:∀p∈π,μ' p.2=μ p.1) {bd bd':Body} (h:RmB π σ σ' bd bd') {p:Option (Nat × Nat)} (hb:BodyRel W F μ σ p bd):BodyRel W F μ' σ' p bd':=by
 cases h with
 | row t m els=>exact hb
 | obj o=>exact hb
 | @box t cs cs' hl h1 hrn =>
  obtain ⟨b,c,vs,hm,hw,hlv,hv⟩:=hb
  refine ⟨b,c,vs,hm,hw,by rw [hlv,hl],fun j x' v hj hvj=>⟨h1 j x' hj,?_⟩⟩
  obtain ⟨x,hxj⟩:∃x,cs[j]?=some x:=⟨_,List.getElem?_eq_getElem (by rw [<- hl];exact (List.getElem?_eq_some_iff.1 hj).1)⟩
  exact (hrn j x x' hxj hj).rel hμ (hv j x v hxj hvj).2
def muOf (μ:Mu):List (Nat × Nat)->Mu
 | [],_=>none
 | p::π,k=>if k=p.2 then μ p.1 else muOf μ π k
theorem muOf_some {μ:Mu}:∀{π:List (Nat × Nat)} {k:Nat} {x:Nat × Nat},muOf μ π k=some x->∃p∈π,p.2=k/\μ p.1=some x
 | [],_,_,h=>by cases h
 | p::π,k,x,h=>by
  unfold muOf at h
  split at h
  ·rename_i e
   exact ⟨p,by simp,e.symm,h⟩
  ·obtain ⟨q,h1,h2,h3⟩:=muOf_some h
   exact ⟨q,by simp [h1],h2,h3⟩
theorem muOf_in {μ:Mu}:∀{π:List (Nat × Nat)},(π.map (·.2)).Nodup->∀p∈π,muOf μ π p.2=μ p.1
  | [],_,p,hp=>by cases hp
  | q::π,hn,p,hp=>by
    rw [List.map_cons,List.nodup_cons] at hn
    unfold muOf
    rcases List.mem_cons.1 hp with rfl | hp
    · rw [if_pos rfl]
    · rw [if_neg (fun e=>hn.1 (by rw [<- e];exact List.mem_map_of_mem (f:=(·.2)) hp))]
      exact muOf_in hn.2 p hp
theorem give_inv {W : World} {F : Nat -> Prop} {μ : Mu} {σ σ0 : Sto} {π : List (Nat × Nat)} (hi : Inv W F μ σ) (hn : (π.map (·.2)).Nodup) (hn1 : (π.map (·.1)).Nodup)
    (hB:∀k bd',(σ0 k).body=some bd'->(∃p∈π,p.2=k/\∃bd,(σ p.1).body=some bd/\RmB π σ σ0 bd bd')\/(∃i e q,bd' = .ghost i e q/\e<=(σ0 i).ep/\muOf μ π i=q/\muOf μ π k=none)):Inv W F (muOf μ π) σ0:=by
  have own:∀k b c,(σ0 k).body.isSome=true->muOf μ π k=some (b,c)->∃p∈π,p.2=k/\μ p.1=some (b,c)/\(σ p.1).body.isSome=true:=fun k b c hs hm=>by
    obtain ⟨bd',e⟩:=Option.isSome_iff_exists.1 hs
    rcases hB k bd' e with ⟨p,hp,rfl,bd,h1,_⟩ | ⟨_,_,_,_,_,_,h⟩
    · exact ⟨p,hp,rfl,(muOf_in hn p hp).symm.trans hm,by rw [h1];rfl⟩
    · rw [h] at hm;cases hm
  refine ⟨fun k ep bd' hk=>?_,fun b ⟨k,ep,bd,c,h1,h2⟩=>?_,fun k k' b c c' h1 h2 h3 h4=>?_,hi.old,hi.lay⟩
  · rcases hB k bd' (by rw [hk]) with ⟨p,hp,rfl,bd,h1,h2⟩ | ⟨i,e,q,rfl,h1,h2,h3⟩
    · rw [muOf_in hn p hp]
      exact h2.rel (fun q hq=>muOf_in hn q hq) (hi.body p.1 (σ p.1).ep bd (by rw [<- h1]))
    · exact ⟨h3,h1,fun _ _=>h2⟩
  · obtain ⟨p,hp,rfl,g1,g2⟩:=own k b c (by rw [h1];rfl) h2
    obtain ⟨bd0,e⟩:=Option.isSome_iff_exists.1 g2
    exact hi.apart b ⟨p.1,(σ p.1).ep,bd0,c,by rw [<- e],g1⟩
  · obtain ⟨p,hp,rfl,g1,g2⟩:=own k b c h1 h3
    obtain ⟨q,hq,rfl,g3,g4⟩:=own k' b c' h2 h4
    have e:=hi.inj p.1 q.1 b c c' g2 g4 g1 g3
    have:∀(l:List (Nat × Nat)),(l.map (·.1)).Nodup->p∈l->q∈l->p=q:=by
      intro l
      induction l with
      | nil=>intro _ h;cases h
      | cons a l ih =>
        intro hl h5 h6
        rw [List.map_cons,List.nodup_cons] at hl
        rcases List.mem_cons.1 h5 with g5 | g5 <;> rcases List.mem_cons.1 h6 with g6 | g6
        · rw [g5,g6]
        · exact (hl.1 (by rw [<- g5,e];exact List.mem_map_of_mem (f:=(·.1)) g6)).elim
        · exact (hl.1 (by rw [<- g6,<- e];exact List.mem_map_of_mem (f:=(·.1)) g5)).elim
        · exact ih hl.2 g5 g6
    rw [this π hn1 hp hq]
open Classical in
noncomputable def muBk (μ μ1:Mu) (π:List (Nat × Nat)) (T:List Nat):Mu:=fun id=>if id∈T then muOf μ1 π id else μ id
theorem back_inv {W W' : World} {F F' : Nat -> Prop} {μ μ0 μ1 : Mu} {σ σ0 σ1 σ2 : Sto} {π : List (Nat × Nat)} {T : List Nat} (hi : Inv W F μ σ) (hi1 : Inv W' F' μ1 σ1) (hs : Stq W F μ0 σ0 W' F' μ1 σ1)
    (own0:∀b,Own μ0 σ0 b->∃id∈T,∃ep bd c,σ id=⟨ep,some bd⟩/\μ id=some (b,c)) (hout:∀id,id∉T->σ2 id=σ id) (hn:(π.map (·.2)).Nodup) (hn1:∀p∈π,∀q∈π,p.1=q.1->p=q) (hT:∀p∈π,p.2∈T)
    (hup:∀id∈T,∀bd2,(σ2 id).body=some bd2->∃p∈π,p.2=id/\∃bd,(σ1 p.1).body=some bd/\RmB π σ1 σ2 bd bd2) (hep:∀id∈T,(σ id).ep<=(σ2 id).ep)
    (hsame:∀id∈T,(σ2 id).ep=(σ id).ep->∀bd2,(σ2 id).body=some bd2->∃bd,(σ id).body=some bd/\bd2.sh=bd.sh/\muOf μ1 π id=μ id) :
    Stp W F μ σ W' F' (muBk μ μ1 π T) σ2/\Inv W' F' (muBk μ μ1 π T) σ2:=by
  have muT:∀id,id∈T->muBk μ μ1 π T id=muOf μ1 π id:=fun id h=>if_pos h
  have muN:∀id,id∉T->muBk μ μ1 π T id=μ id:=fun id h=>if_neg h
  have size:=hs.kp.size
  have own0':∀b,Own μ0 σ0 b->Own μ σ b:=fun b hb=>by
    obtain ⟨id,_,ep,bd,c,h1,h2⟩:=own0 b hb
    exact ⟨id,ep,bd,c,h1,h2⟩
  -- a touched block, by the callee's number
  have tch:∀id∈T,∀b c,(σ2 id).body.isSome=true->muOf μ1 π id=some (b,c)->∃p∈π,p.2=id/\(σ1 p.1).body.isSome=true/\μ1 p.1=some (b,c):=fun id hid b c h1 h2=>by
    obtain ⟨bd2,e⟩:=Option.isSome_iff_exists.1 h1
    obtain ⟨p,hp,rfl,bd,e1,_⟩:=hup id hid bd2 e
    exact ⟨p,hp,rfl,by rw [e1];rfl,(muOf_in hn p hp).symm.trans h2⟩
  have tchO:∀id∈T,∀b c,(σ2 id).body.isSome=true->muOf μ1 π id=some (b,c)->Own μ1 σ1 b:=fun id hid b c h1 h2=>by
    obtain ⟨p,hp,rfl,g1,g2⟩:=tch id hid b c h1 h2
    obtain ⟨bd,e⟩:=Option.isSome_iff_exists.1 g1
    exact ⟨p.1,(σ1 p.1).ep,bd,c,by rw [<- e],g2⟩
  -- an untouched block is none of those that were handed
  have apart0:∀id,id∉T->∀b c,(σ id).body.isSome=true->μ id=some (b,c)->¬Own μ0 σ0 b:=fun id hid b c h1 h2 ho=>by
    obtain ⟨id',hT',ep,bd,c',g1,g2⟩:=own0 b ho
    have:=hi.inj id id' b c c' h1 (by rw [g1];rfl) h2 g2
    exact hid (this ▸ hT')
  have stp:Stp W F μ σ W' F' (muBk μ μ1 π T) σ2:=by
    refine ⟨hs.kp.mono fun b _ hb=>own0' b hb,hs.fro,fun b hb=>?_,fun b ⟨id,ep,bd,c,h1,h2⟩=>?_,fun id=>?_,fun id he bd2 hb=>?_⟩
    · rcases hs.new b hb with h | h | h
      · exact .inl h
      · exact .inr (.inl (own0' b h))
      · exact .inr (.inr h)
    · by_cases hid:id∈T
      · rw [muT id hid] at h2
        rcases hs.own b (tchO id hid b c (by rw [h1];rfl) h2) with h | h
        · exact .inl (own0' b h)
        · exact .inr h
      · rw [muN id hid] at h2
        rw [hout id hid] at h1
        exact .inl ⟨id,ep,bd,c,h1,h2⟩
    · by_cases hid:id∈T
      · exact hep id hid
      · rw [hout id hid];exact Nat.le_refl _
    · by_cases hid:id∈T
      · rw [muT id hid]
        exact hsame id hid he bd2 hb
      · rw [hout id hid] at hb
        exact ⟨bd2,hb,rfl,muN id hid⟩
  refine ⟨stp,fun id ep bd hb=>?_,fun b ⟨id,ep,bd,c,h1,h2⟩=>?_,fun id id' b c c' h1 h2 h3 h4=>?_,hi1.old,hi1.lay⟩
  · by_cases hid:id∈T
    · obtain ⟨p,hp,rfl,bd1,e1,hR⟩:=hup id hid bd (by rw [hb])
      rw [muT _ hid,muOf_in hn p hp]
      exact hR.rel (fun q hq=>(muT _ (hT q hq)).trans (muOf_in hn q hq)) (hi1.body p.1 (σ1 p.1).ep bd1 (by rw [<- e1]))
    · rw [hout id hid] at hb
      rw [muN id hid]
      refine (hi.body id ep bd hb).stp hi stp fun b c hm=>?_
      have ho:=hi.apart b ⟨id,ep,bd,c,hb,hm⟩
      exact hs.kp.block b ho.1 (apart0 id hid b c (by rw [hb];rfl) hm)
  · by_cases hid:id∈T
    · rw [muT id hid] at h2
      exact hi1.apart b (tchO id hid b c (by rw [h1];rfl) h2)
    · rw [muN id hid] at h2
      rw [hout id hid] at h1
      have ho:=hi.apart b ⟨id,ep,bd,c,h1,h2⟩
      refine ⟨by omega,fun hF=>?_⟩
      rcases hs.new b hF with h | h | h
      · exact ho.2 h
      · exact apart0 id hid b c (by rw [h1];rfl) h2 h
      · omega
  · have mix : ∀ id id' c c', id ∈ T -> id' ∉ T -> (σ2 id).body.isSome = true -> (σ2 id').body.isSome = true -> muBk μ μ1 π T id = some (b, c) -> muBk μ μ1 π T id' = some (b, c') -> False := fun id id' c c' hid hid' h1 h2 h3 h4 => by
      rw [muT id hid] at h3
      rw [muN id' hid'] at h4
      rw [hout id' hid'] at h2
      obtain ⟨bd',e⟩:=Option.isSome_iff_exists.1 h2
      have ho:=hi.apart b ⟨id',(σ id').ep,bd',c',by rw [<- e],h4⟩
      rcases hs.own b (tchO id hid b c h1 h3) with h | h
      · exact apart0 id' hid' b c' h2 h4 h
      · omega
    by_cases hid:id∈T <;> by_cases hid':id'∈T
    · rw [muT id hid] at h3
      rw [muT id' hid'] at h4
      obtain ⟨p,hp,rfl,g1,g2⟩:=tch id hid b c h1 h3
      obtain ⟨q,hq,rfl,g3,g4⟩:=tch id' hid' b c' h2 h4
      rw [hn1 p hp q hq (hi1.inj p.1 q.1 b c c' g1 g3 g2 g4)]
    · exact (mix id id' c c' hid hid' h1 h2 h3 h4).elim
    · exact (mix id' id c' c hid' hid h2 h1 h4 h3).elim
    · rw [muN id hid] at h3
      rw [muN id' hid'] at h4
      rw [hout id hid] at h1
      rw [hout id' hid'] at h2
      exact hi.inj id id' b c c' h1 h2 h3 h4
theorem Rm.congr2 {π:List (Nat × Nat)} {σ σ' σ2:Sto} (hσ:∀p∈π,σ2 p.2=σ' p.2) {x x':AV} (h:Rm π σ σ' x x'):Rm π σ σ2 x x':=by
 induction h with
 | any x=>exact .any x
 | pu h=>exact .pu h
 | nil=>exact .nil
 | ref hm h h'=>exact .ref hm h ((hσ _ hm).trans h')
 | fn hl hl' _ _ ih ih'=>exact .fn hl hl' ih ih'
 | own hm h h'=>exact .own hm h ((hσ _ hm).trans h')
 | row hm h h'=>exact .row hm h ((hσ _ hm).trans h')
 | agg hl h1 _ ih=>exact .agg hl h1 ih
 | tup hl _ ih=>exact .tup hl ih
theorem RmB.congr2 {π:List (Nat × Nat)} {σ σ' σ2:Sto} (hσ:∀p∈π,σ2 p.2=σ' p.2) {x x':Body} (h:RmB π σ σ' x x'):RmB π σ σ2 x x':=by
 cases h with
 | box hl h1 h=>exact .box hl h1 fun j x x' g g'=>(h j x x' g g').congr2 hσ
 | row t m els=>exact .row t m els
 | obj o=>exact .obj o
theorem upsC_out:∀{l:List (Nat × SB)} {σ:Sto} {id:Nat},id∉l.map (·.1)->ups σ l id=σ id
 | [],_,_,_=>rfl
 | p::l,σ,id,h=>by
  rw [List.map_cons,List.mem_cons,not_or] at h
  show ups (up1 σ p.1 p.2) l id=σ id
  rw [upsC_out h.2]
  show cond (Nat.beq id p.1) p.2 (σ id)=σ id
  cases hb:Nat.beq id p.1
  ·rfl
  ·exact (h.1 (Nat.eq_of_beq_eq_true hb)).elim
theorem upsC_in:∀{l:List (Nat × SB)} {σ σ':Sto} {id:Nat},id∈l.map (·.1)->ups σ l id=ups σ' l id
 | [],_,_,_,h=>by cases h
 | p::l,σ,σ',id,h=>by
  show ups (up1 σ p.1 p.2) l id=ups (up1 σ' p.1 p.2) l id
  by_cases hl:id∈l.map (·.1)
  ·exact upsC_in hl
  ·rw [upsC_out hl,upsC_out hl]
   rw [List.map_cons,List.mem_cons] at h
   have e:=h.resolve_right hl
   show cond (Nat.beq id p.1) p.2 (σ id)=cond (Nat.beq id p.1) p.2 (σ' id)
   rw [e,Nat.beq_refl]
   rfl
def gl (q:Nat->Option (Nat × Nat)):List Nat->List (Nat × SB)->List (Nat × SB)
 | [],B=>B
 | k::ks,B=>(900+k,⟨0,some (.ghost k 0 (q k))⟩)::gl q ks B
theorem gl_lo {q:Nat->Option (Nat × Nat)} {B:List (Nat × SB)} {k:Nat} (hk:k<900):∀ks,lkB (gl q ks B) k=lkB B k
 | []=>rfl
 | i::ks=>by
  show cond (Nat.beq k (900+i)) _ (lkB (gl q ks B) k)=_
  rw [beq_f (by omega),cond_false]
  exact gl_lo hk ks
theorem gl_at {q:Nat->Option (Nat × Nat)} {B:List (Nat × SB)} {k:Nat}:∀{ks},k∈ks->lkB (gl q ks B) (900+k)=⟨0,some (.ghost k 0 (q k))⟩
  | i::ks,h=>by
    show cond (Nat.beq (900+k) (900+i)) _ (lkB (gl q ks B) (900+k))=_
    by_cases e:k=i
    · rw [e,beq_t,cond_true]
    · rw [beq_f (by omega),cond_false]
      exact gl_at ((List.mem_cons.1 h).resolve_left e)
theorem gl_hi {q:Nat->Option (Nat × Nat)} {B:List (Nat × SB)} {k:Nat} {bd:Body}:∀{ks},(lkB (gl q ks B) k).body=some bd->(∃i,k=900+i/\bd = .ghost i 0 (q i))\/(lkB B k).body=some bd
 | [],h=>.inr h
 | i::ks,h=>by
  replace h:(cond (Nat.beq k (900+i)) (⟨0,some (.ghost i 0 (q i))⟩:SB) (lkB (gl q ks B) k)).body=some bd:=h
  cases hb:Nat.beq k (900+i)
  ·rw [hb,cond_false] at h
   exact gl_hi h
  ·rw [hb,cond_true] at h
   exact .inl ⟨i,Nat.eq_of_beq_eq_true hb,(Option.some.inj h).symm⟩
theorem oploc_callO {P : Program} {N : Nat} {o : Oper} {c : Call} {fop : Operand} {s : St} {f : FuncId} {first caps zs : List AV} {r r' : AV} {π π' : List (Nat × Nat)} {ks : List Nat} {B0 B1 up : List (Nat × SB)} (ho : o.op = .call c) (hc : c.callee = .value fop) (hf : s.ev fop = .fn f first caps)
    (h:∀q,MDoes P f zs (gl q ks B0) r (gl q ks B1))
    (hlen:zs.length=(first++(c.args.toList.map s.ev++caps)).length)
    (hargs:∀(j:Nat) (x z:AV),(first++(c.args.toList.map s.ev++caps))[j]?=some x->zs[j]?=some z->Rm π s.σ (lkB B0) x z)
    (hn:(π.map (·.2)).Nodup) (hn1:(π.map (·.1)).Nodup) (h9:∀p∈π,p.2<900)
    (hB0:∀k bd',(lkB B0 k).body=some bd'->∃p∈π,p.2=k/\∃bd,(s.σ p.1).body=some bd/\RmB π s.σ (lkB B0) bd bd')
    (hcov:∀p∈π,p.1∈up.map (·.1))
    (hn':(π'.map (·.2)).Nodup) (hn1':∀p∈π',∀q∈π',p.1=q.1->p=q) (h9':∀p∈π',p.1<900) (hT:∀p∈π',p.2∈up.map (·.1))
    (hup:∀id∈up.map (·.1),∀bd2,(ups s.σ up id).body=some bd2->∃p∈π',p.2=id/\∃bd,(lkB B1 p.1).body=some bd/\RmB π' (lkB B1) (ups s.σ up) bd bd2)
    (hep:∀id∈up.map (·.1),(s.σ id).ep<=(ups s.σ up id).ep)
    (hpin:∀id∈up.map (·.1),(ups s.σ up id).ep=(s.σ id).ep->∀bd2,(ups s.σ up id).body=some bd2->∃k∈ks,(id,k)∈π/\(k,id)∈π'/\(∃bd,lkB B1 k=⟨0,some bd⟩)/\∃bd,(s.σ id).body=some bd/\bd2.sh=bd.sh)
    (hr':Rm π' (lkB B1) (ups s.σ up) r r'):OpLoc P N o s ⟨r',up,[]⟩:=by
  intro s' hev _ hid' W F μ a hr K Q hK
  have hσ:∀id∈up.map (·.1),s'.σ id=s.σ id:=fun id hin=>by
    obtain ⟨p,hp,rfl⟩:=List.mem_map.1 hin
    exact hid' p hp
  have hu:∀id∈up.map (·.1),ups s'.σ up id=ups s.σ up id:=fun id hin=>upsC_in hin
  have hopers:o.op.operands.toList=fop::c.args.toList:=by
    rw [ho]
    simp [Op.operands,Call.operands,hc]
  have hf':s'.ev fop = .fn f first caps:=(hev fop (by rw [hopers];simp)).trans hf
  have hargs':c.args.toList.map s'.ev=c.args.toList.map s.ev:=List.map_congr_left fun x hx=>hev x (by rw [hopers];simp [hx])
  have hfv:=hr.ev fop
  rw [hf'] at hfv
  obtain ⟨fs,cs,hfe,hfl,hcl,hfr,hcr⟩:=hfv.fn'
  obtain ⟨q,hq⟩:∃q,q=muOf μ π:=⟨_,rfl⟩
  have lo0:∀p∈π,lkB (gl q ks B0) p.2=lkB B0 p.2:=fun p hp=>gl_lo (h9 p hp) ks
  have lo1:∀p∈π',lkB (gl q ks B1) p.1=lkB B1 p.1:=fun p hp=>gl_lo (h9' p hp) ks
  obtain ⟨fn,bd,g1,g2,g3⟩:=(h q).fn
  unfold Oper.wp
  rw [exec_call ho hc hfe g1 g2 g3]
  show Calls P f _ W _
  have hσπ:∀p∈π,s'.σ p.1=s.σ p.1:=fun p hp=>hσ p.1 (hcov p hp)
  have hi0:Inv W F (muOf μ π) (lkB (gl q ks B0)):=give_inv hr.inv hn hn1 fun k bd' hb=>by
    rcases gl_hi hb with ⟨i,rfl,rfl⟩ | hb
    · right
      refine ⟨i,0,q i,rfl,Nat.zero_le _,by rw [hq],?_⟩
      cases hm:muOf μ π (900+i) with
      | none=>rfl
      | some x =>
        obtain ⟨p,hp,e,_⟩:=muOf_some hm
        have:=h9 p hp
        omega
    · obtain ⟨p,hp,e,bd,e1,e2⟩:=hB0 k bd' hb
      exact .inl ⟨p,hp,e,bd,by rw [hσπ p hp];exact e1,(e2.congr hσπ).congr2 lo0⟩
  have hvl:(fs++(c.args.toList.map a.eval++cs)).length=zs.length:=by rw [hlen];simp [hfl,hcl]
  refine ((h q).calls W F (muOf μ π) (fs++(c.args.toList.map a.eval++cs)) hvl (fun j z v hz hv=>?_) hi0).mono ?_
  · obtain ⟨x,hx⟩:∃x,(first++(c.args.toList.map s.ev++caps))[j]?=some x:=⟨_,List.getElem?_eq_getElem (by rw [<- hlen];exact (List.getElem?_eq_some_iff.1 hz).1)⟩
    refine (((hargs j x z hx hz).congr hσπ).congr2 lo0).rel (fun p hp=>muOf_in hn p hp) ?_
    rw [<- hargs'] at hx
    rw [List.getElem?_append] at hx hv
    rw [hfl] at hv
    split at hx
    · rename_i hlt
      rw [if_pos hlt] at hv
      exact hfr j x v hx hv
    · rename_i hlt
      rw [if_neg hlt] at hv
      rw [List.getElem?_append] at hx hv
      simp only [List.length_map] at hx hv
      split at hx
      · rename_i hlt2
        rw [if_pos hlt2] at hv
        rw [List.getElem?_map] at hx hv
        cases hq:c.args.toList[j - first.length]? with
        | none=>rw [hq] at hx;cases hx
        | some q =>
          rw [hq] at hx hv
          obtain rfl:s'.ev q=x:=by simpa using hx
          obtain rfl:a.eval q=v:=by simpa using hv
          exact hr.ev q
      · rename_i hlt2
        rw [if_neg hlt2] at hv
        exact hcr _ x v hx hv
  · rintro e W' ⟨v,F',μ1,rfl,hi1,hs1,hv⟩
    obtain ⟨hs, hi⟩ := back_inv (σ2 := ups s'.σ up) (T := up.map (·.1)) hr.inv hi1 hs1 (fun b ⟨k, ep, bd, c, e1, e2⟩ => by
        obtain ⟨p,hp,rfl,e3⟩:=muOf_some e2
        rw [lo0 p hp] at e1
        obtain ⟨p',hp',e4,bd',e5,_⟩:=hB0 p.2 bd (show (lkB B0 p.2).body=some bd by rw [e1])
        have e6:μ p'.1=some (b,c):=by have g:=muOf_in (μ:=μ) hn p' hp';rw [e4] at g;exact g.symm.trans e2
        exact ⟨p'.1,hcov p' hp',(s'.σ p'.1).ep,bd',c,by rw [hσπ p' hp',<- e5],e6⟩)
      (fun id hid=>upsC_out hid) hn' hn1' hT
      (fun id hid bd2 hb=>by
        rw [hu id hid] at hb
        obtain ⟨p,hp,e1,bd,e2,e3⟩:=hup id hid bd2 hb
        exact ⟨p,hp,e1,bd,by rw [lo1 p hp];exact e2,(e3.congr2 fun p hp=>hu _ (hT p hp)).congr lo1⟩)
      (fun id hid=>by rw [hu id hid,hσ id hid];exact hep id hid)
      (fun id hid he bd2 hb=>by
        rw [hu id hid] at hb he
        rw [hσ id hid] at he
        obtain ⟨k,hk,m1,m2,⟨bd1,e1⟩,bd,e2,e3⟩:=hpin id hid he bd2 hb
        refine ⟨bd,by rw [hσ _ hid];exact e2,e3,?_⟩
        have hg:=hi1.body (900+k) 0 (.ghost k 0 (q k)) (gl_at hk)
        have h1:μ1 k=q k:=hg.2.2 bd1 ((lo1 _ m2).trans e1)
        exact (muOf_in hn' (k,id) m2).trans (h1.trans (by rw [hq];exact muOf_in hn (id,k) m1)))
    refine hK W' F' _ _ (hr.put hs hi (dst:=o.dst) (x:=r') (v:=v) ?_) hs
    refine ((hr'.congr lo1).congr2 fun p hp=>hu _ (hT p hp)).rel (fun p hp=>?_) hv
    unfold muBk
    rw [if_pos (hT p hp)]
    exact muOf_in hn' p hp
end Go.Proofs.YthgbdoofchknhaaGreatDoor.Sm
end
section
namespace Go.Proofs.YthgbdoofchknhaaGreatDoor.Sm
open Go.RowKit
def lkP:List (Nat × Nat)->Nat->Option Nat
 | [],_=>none
 | p::π,id=>cond (Nat.beq id p.1) (some p.2) (lkP π id)
theorem lkP_ok:∀{π:List (Nat × Nat)} {id k:Nat},lkP π id=some k->(id,k)∈π
 | [],_,_,h=>by cases h
 | p::π,id,k,h=>by
  replace h:cond (Nat.beq id p.1) (some p.2) (lkP π id)=some k:=h
  cases hb:Nat.beq id p.1
  ·rw [hb,cond_false] at h
   exact List.mem_cons_of_mem _ (lkP_ok h)
  ·rw [hb,cond_true] at h
   rw [Nat.eq_of_beq_eq_true hb,<- Option.some.inj h]
   exact List.mem_cons_self
def optL {α:Type}:List (Option α)->Option (List α)
 | []=>some []
 | none::_=>none
 | some x::l=>match optL l with
  | some r=>some (x::r)
  | none=>none
theorem optL_ok {α β:Type} {f:β->Option α}:∀{l:List β} {r:List α},optL (l.map f)=some r->r.length=l.length/\∀(j:Nat) (x:β) (y:α),l[j]?=some x->r[j]?=some y->f x=some y
 | [],r,h=>by
  obtain rfl:=Option.some.inj h
  exact ⟨rfl,fun j x y hx=>by simp at hx⟩
 | a::l,r,h=>by
  cases ha:f a with
  | none=>simp [optL,ha] at h
  | some b =>
   cases hl:optL (l.map f) with
   | none=>simp [optL,ha,hl] at h
   | some t =>
    simp only [List.map_cons,optL,ha,hl,Option.some.injEq] at h
    subst h
    obtain ⟨h1,h2⟩:=optL_ok hl
    refine ⟨by simp [h1],fun j x y hx hy=>?_⟩
    cases j with
    | zero =>
     obtain rfl:a=x:=by simpa using hx
     obtain rfl:b=y:=by simpa using hy
     exact ha
    | succ j=>exact h2 j x y (by simpa using hx) (by simpa using hy)
def rmA0 (π:List (Nat × Nat)) (σ:Sto) (e:Nat->Nat):AV->Option AV
 | .own id ep off=>match lkP π id,σ id with
  | some k,⟨ep0,some _⟩=>cond (Nat.beq ep0 ep) (some (.own k (e k) off)) none
  | _,_=>none
 | .ref id ep kd=>match lkP π id,σ id with
  | some k,⟨ep0,some _⟩=>cond (Nat.beq ep0 ep) (some (.ref k (e k) kd)) none
  | _,_=>none
 | .row id ep off n=>match lkP π id,σ id with
  | some k,⟨ep0,some (.row _ _ _)⟩=>cond (Nat.beq ep0 ep) (some (.row k (e k) off n)) none
  | _,_=>none
 | .any=>some .any
 | x=>cond x.pu1 (some x) none
def rmAg (π:List (Nat × Nat)) (σ:Sto) (e:Nat->Nat):AV->Option AV
 | .agg cs=>match optL (cs.map (rmA0 π σ e)) with
  | some r=>cond (r.all AV.one) (some (.agg r)) none
  | none=>none
 | x=>rmA0 π σ e x
def rmA1 (π:List (Nat × Nat)) (σ:Sto) (e:Nat->Nat):AV->Option AV
 | .fn f a c=>match optL (a.map (rmAg π σ e)),optL (c.map (rmAg π σ e)) with
  | some a',some c'=>some (.fn f a' c')
  | _,_=>none
 | x=>rmA0 π σ e x
def rmA2 (π:List (Nat × Nat)) (σ:Sto) (e:Nat->Nat):AV->Option AV
 | .agg cs=>match optL (cs.map (rmA1 π σ e)) with
  | some r=>cond (r.all AV.one) (some (.agg r)) none
  | none=>none
 | x=>rmA1 π σ e x
def rmA (π:List (Nat × Nat)) (σ:Sto) (e:Nat->Nat):AV->Option AV
 | .tup cs=>match optL (cs.map (rmA2 π σ e)) with
  | some r=>some (.tup r)
  | none=>none
 | x=>rmA2 π σ e x
def RmS (π:List (Nat × Nat)) (σ σ':Sto) (e:Nat->Nat):Prop :=
 ∀p∈π,∀bd,(σ p.1).body=some bd->∃bd',σ' p.2=⟨e p.2,some bd'⟩/\∀t m els,bd = .row t m els->bd' = .row t m els
theorem rmA0_ok {π:List (Nat × Nat)} {σ σ':Sto} {e:Nat->Nat} (hS:RmS π σ σ' e) {x x':AV} (h:rmA0 π σ e x=some x'):Rm π σ σ' x x':=by
 unfold rmA0 at h
 split at h
 ·split at h
  ·rename_i id ep off o sb k ep0 bd hk hs
   obtain ⟨h1,h2⟩:=cond_none h
   obtain rfl:=Nat.eq_of_beq_eq_true h1
   obtain rfl:=Option.some.inj h2
   have hm:=lkP_ok hk
   obtain ⟨bd',h3,_⟩:=hS _ hm bd (by rw [hs])
   exact .own hm hs h3
  ·cases h
 ·split at h
  ·rename_i id ep kd o sb k ep0 bd hk hs
   obtain ⟨h1,h2⟩:=cond_none h
   obtain rfl:=Nat.eq_of_beq_eq_true h1
   obtain rfl:=Option.some.inj h2
   have hm:=lkP_ok hk
   obtain ⟨bd',h3,_⟩:=hS _ hm bd (by rw [hs])
   exact .ref hm hs h3
  ·cases h
 ·split at h
  ·rename_i id ep off n o sb k ep0 t m els hk hs
   obtain ⟨h1,h2⟩:=cond_none h
   obtain rfl:=Nat.eq_of_beq_eq_true h1
   obtain rfl:=Option.some.inj h2
   have hm:=lkP_ok hk
   obtain ⟨bd',h3,h4⟩:=hS _ hm _ (by rw [hs])
   rw [h4 _ _ _ rfl] at h3
   exact .row hm hs h3
  ·cases h
 ·obtain rfl:=Option.some.inj h
  exact .any _
 ·obtain ⟨h1,h2⟩:=cond_none h
  obtain rfl:=Option.some.inj h2
  exact .pu h1
theorem rmAg_ok {π:List (Nat × Nat)} {σ σ':Sto} {e:Nat->Nat} (hS:RmS π σ σ' e) {x x':AV} (h:rmAg π σ e x=some x'):Rm π σ σ' x x':=by
 unfold rmAg at h
 split at h
 ·split at h
  ·rename_i cs r hr
   obtain ⟨h1,h2⟩:=cond_none h
   obtain rfl:=Option.some.inj h2
   obtain ⟨g1,g2⟩:=optL_ok hr
   exact .agg g1 (fun j x hj=>List.all_eq_true.1 h1 x (List.mem_of_getElem? hj)) fun j x x' hx hx'=>rmA0_ok hS (g2 j x x' hx hx')
  ·cases h
 ·exact rmA0_ok hS h
theorem rmA1_ok {π:List (Nat × Nat)} {σ σ':Sto} {e:Nat->Nat} (hS:RmS π σ σ' e) {x x':AV} (h:rmA1 π σ e x=some x'):Rm π σ σ' x x':=by
 unfold rmA1 at h
 split at h
 ·split at h
  ·rename_i a' c' ha hc
   obtain rfl:=Option.some.inj h
   obtain ⟨g1,g2⟩:=optL_ok ha
   obtain ⟨g3,g4⟩:=optL_ok hc
   exact .fn g1 g3 (fun j x x' hx hx'=>rmAg_ok hS (g2 j x x' hx hx')) fun j x x' hx hx'=>rmAg_ok hS (g4 j x x' hx hx')
  ·cases h
 ·exact rmA0_ok hS h
theorem rmA2_ok {π:List (Nat × Nat)} {σ σ':Sto} {e:Nat->Nat} (hS:RmS π σ σ' e) {x x':AV} (h:rmA2 π σ e x=some x'):Rm π σ σ' x x':=by
 unfold rmA2 at h
 split at h
 ·split at h
  ·rename_i cs r hr
   obtain ⟨h1,h2⟩:=cond_none h
   obtain rfl:=Option.some.inj h2
   obtain ⟨g1,g2⟩:=optL_ok hr
   exact .agg g1 (fun j x hj=>List.all_eq_true.1 h1 x (List.mem_of_getElem? hj)) fun j x x' hx hx'=>rmA1_ok hS (g2 j x x' hx hx')
  ·cases h
 ·exact rmA1_ok hS h
theorem rmA_ok {π:List (Nat × Nat)} {σ σ':Sto} {e:Nat->Nat} (hS:RmS π σ σ' e) {x x':AV} (h:rmA π σ e x=some x'):Rm π σ σ' x x':=by
 unfold rmA at h
 split at h
 ·split at h
  ·rename_i cs r hr
   obtain rfl:=Option.some.inj h
   obtain ⟨g1,g2⟩:=optL_ok hr
   exact .tup g1 fun j x x' hx hx'=>rmA2_ok hS (g2 j x x' hx hx')
  ·cases h
 ·exact rmA2_ok hS h
def deN1 (x:AV):AV:=cond (isNilB x) (.sl []) x
def deN:AV->AV
 | .agg cs=>.agg (cs.map deN1)
 | x=>deN1 x
theorem Rm.deN1 {π:List (Nat × Nat)} {σ σ':Sto} {x y:AV} (h:Rm π σ σ' x y):Rm π σ σ' x (deN1 y):=by
 cases hn:isNilB y
 ·rw [Sm.deN1,hn];exact h
 ·rw [Sm.deN1,hn]
  obtain rfl:=isNilB_ok hn
  cases h with
  | pu h=>exact .nil
theorem deN1_one {x:AV} (h:x.one=true):(deN1 x).one=true:=by
 cases hn:isNilB x
 ·rw [deN1,hn];exact h
 ·rw [deN1,hn];rfl
theorem Rm.deN {π:List (Nat × Nat)} {σ σ':Sto} {x y:AV} (h:Rm π σ σ' x y):Rm π σ σ' x (deN y):=by
 unfold Sm.deN
 split
 ·cases h with
  | pu h=>cases h
  | agg hl h1 h =>
   refine .agg (by rw [List.length_map,hl]) (fun j x hj=>?_) fun j x x' hx hx'=>?_
   ·rw [List.getElem?_map] at hj
    obtain ⟨y,hy,rfl⟩:=Option.map_eq_some_iff.1 hj
    exact deN1_one (h1 j y hy)
   ·rw [List.getElem?_map] at hx'
    obtain ⟨y,hy,rfl⟩:=Option.map_eq_some_iff.1 hx'
    exact (h j x y hx hy).deN1
 ·exact h.deN1
def rmB (π:List (Nat × Nat)) (σ:Sto) (e:Nat->Nat):Body->Option Body
 | .box t cs=>match optL (cs.map (rmA1 π σ e)) with
  | some r=>cond (r.all AV.one) (some (.box t r)) none
  | none=>none
 | .row t m els=>some (.row t m els)
 | .ghost _ _ _=>none
 | .obj o=>some (.obj o)
 | .nest _ _=>none
theorem rmB_ok {π:List (Nat × Nat)} {σ σ':Sto} {e:Nat->Nat} (hS:RmS π σ σ' e) {x x':Body} (h:rmB π σ e x=some x'):RmB π σ σ' x x':=by
 unfold rmB at h
 split at h
 ·split at h
  ·rename_i t cs r hr
   obtain ⟨h1,h2⟩:=cond_none h
   obtain rfl:=Option.some.inj h2
   obtain ⟨g1,g2⟩:=optL_ok hr
   exact .box g1 (fun j x hj=>List.all_eq_true.1 h1 x (List.mem_of_getElem? hj)) fun j x x' hx hx'=>rmA1_ok hS (g2 j x x' hx hx')
  ·cases h
 ·obtain rfl:=Option.some.inj h
  exact .row _ _ _
 ·cases h
 ·obtain rfl:=Option.some.inj h
  exact .obj _
 ·cases h
def rmS (π0:List (Nat × Nat)) (σ:Sto) (e:Nat->Nat):List (Nat × Nat)->Option (List (Nat × SB))
 | []=>some []
 | p::π=>match σ p.1 with
  | ⟨_,some bd⟩=>match rmB π0 σ e bd,rmS π0 σ e π with
   | some bd',some l=>some ((p.2,⟨e p.2,some bd'⟩)::l)
   | _,_=>none
  | _=>none
theorem rmS_ok {π0:List (Nat × Nat)} {σ:Sto} {e:Nat->Nat}:∀{π:List (Nat × Nat)} {l:List (Nat × SB)},rmS π0 σ e π=some l->l.map (·.1)=π.map (·.2) /\
  ∀q∈l,∃p∈π,p.2=q.1/\∃bd bd',(σ p.1).body=some bd/\rmB π0 σ e bd=some bd'/\q.2=⟨e p.2,some bd'⟩
 | [],l,h=>by
  obtain rfl:=Option.some.inj h
  exact ⟨rfl,fun q hq=>by cases hq⟩
 | p::π,l,h=>by
  unfold rmS at h
  split at h
  ·rename_i ep bd hs
   split at h
   ·rename_i bd' l' hb hl
    obtain rfl:=Option.some.inj h
    obtain ⟨h1,h2⟩:=rmS_ok hl
    refine ⟨by rw [List.map_cons,List.map_cons,h1],fun q hq=>?_⟩
    rcases List.mem_cons.1 hq with rfl | hq
    ·exact ⟨p,List.mem_cons_self,rfl,bd,bd',by rw [hs],hb,rfl⟩
    ·obtain ⟨p',hp',g⟩:=h2 q hq
     exact ⟨p',List.mem_cons_of_mem _ hp',g⟩
   ·cases h
  ·cases h
theorem lkB_in:∀{l:List (Nat × SB)} {q:Nat × SB},(l.map (·.1)).Nodup->q∈l->lkB l q.1=q.2
  | a::l,q,hn,hq=>by
    rw [List.map_cons,List.nodup_cons] at hn
    show cond (Nat.beq q.1 a.1) a.2 (lkB l q.1)=q.2
    rcases List.mem_cons.1 hq with rfl | hq
    · rw [beq_t,cond_true]
    · rw [beq_f (fun e=>hn.1 (by rw [<- e];exact List.mem_map_of_mem (f:=(·.1)) hq)),cond_false]
      exact lkB_in hn.2 hq
theorem lkB_some:∀{l:List (Nat × SB)} {k:Nat} {bd:Body},(lkB l k).body=some bd->∃q∈l,q.1=k/\q.2=lkB l k
 | [],k,bd,h=>by cases h
 | a::l,k,bd,h=>by
  have e0:lkB (a::l) k=cond (Nat.beq k a.1) a.2 (lkB l k):=rfl
  cases hb:Nat.beq k a.1
  ·rw [hb,cond_false] at e0
   rw [e0] at h ⊢
   obtain ⟨q,hq,h1,h2⟩:=lkB_some h
   exact ⟨q,List.mem_cons_of_mem _ hq,h1,h2⟩
  ·rw [hb,cond_true] at e0
   exact ⟨a,List.mem_cons_self,(Nat.eq_of_beq_eq_true hb).symm,e0.symm⟩
theorem ups_at:∀{l:List (Nat × SB)} {σ:Sto} {q:Nat × SB},(l.map (·.1)).Nodup->q∈l->ups σ l q.1=q.2
 | a::l,σ,q,hn,hq=>by
  rw [List.map_cons,List.nodup_cons] at hn
  show ups (up1 σ a.1 a.2) l q.1=q.2
  rcases List.mem_cons.1 hq with rfl | hq
  ·rw [upsC_out hn.1]
   show cond (Nat.beq q.1 q.1) q.2 _=q.2
   rw [beq_t,cond_true]
  ·exact ups_at hn.2 hq
theorem rmS_RmS {π:List (Nat × Nat)} {σ σ':Sto} {e:Nat->Nat} {l:List (Nat × SB)} (h:rmS π σ e π=some l) (hl:∀q∈l,σ' q.1=q.2) (hn:(π.map (·.2)).Nodup):RmS π σ σ' e:=by
 intro p hp bd hbd
 obtain ⟨h1,h2⟩:=rmS_ok h
 obtain ⟨q,hq,hq1⟩:∃q∈l,q.1=p.2:=List.mem_map.1 (by rw [h1];exact List.mem_map_of_mem (f:=(·.2)) hp)
 obtain ⟨p',hp',e1,bd0,bd',e2,e3,e4⟩:=h2 q hq
 have:∀(π:List (Nat × Nat)),(π.map (·.2)).Nodup->p∈π->p'∈π->p'.2=p.2->p'=p:=by
  intro π
  induction π with
  | nil=>intro _ h;cases h
  | cons a π ih =>
   intro hn h5 h6 he
   rw [List.map_cons,List.nodup_cons] at hn
   rcases List.mem_cons.1 h5 with g5 | g5 <;> rcases List.mem_cons.1 h6 with g6 | g6
   ·rw [g5,g6]
   ·exact (hn.1 (by rw [<- g5,<- he];exact List.mem_map_of_mem (f:=(·.2)) g6)).elim
   ·exact (hn.1 (by rw [<- g6,he];exact List.mem_map_of_mem (f:=(·.2)) g5)).elim
   ·exact ih hn.2 g5 g6 he
 obtain rfl:=this π hn hp hp' (e1.trans hq1)
 refine ⟨bd',by rw [<- hq1,hl q hq,e4,hq1],fun t m els hr=>?_⟩
 obtain rfl:=Option.some.inj (hbd.symm.trans e2)
 subst hr
 exact (Option.some.inj e3).symm
def nodupB:List Nat->Bool
 | []=>true
 | x::l=>l.all (fun y=>!Nat.beq x y) && nodupB l
theorem nodupB_ok:∀{l:List Nat},nodupB l=true->l.Nodup
 | [],_=>List.nodup_nil
 | x::l,h=>by
  simp only [nodupB,Bool.and_eq_true] at h
  refine List.nodup_cons.2 ⟨fun hx=>?_,nodupB_ok h.2⟩
  have:=List.all_eq_true.1 h.1 x hx
  rw [Nat.beq_refl] at this
  cases this
def shB (a b:Option Body):Bool:=match a,b with
 | some (.box t cs),some (.box t' cs')=>Nat.beq t t' && Nat.beq cs.length cs'.length
 | some (.obj _),some (.obj _)=>true
 | _,_=>false
theorem shB_ok {a b:Option Body} (h:shB a b=true):∃x y,a=some x/\b=some y/\y.sh=x.sh:=by
 unfold shB at h
 split at h
 ·rename_i t cs t' cs'
  rw [Bool.and_eq_true] at h
  refine ⟨_,_,rfl,rfl,?_⟩
  show (true,t',cs'.length,0)=(true,t,cs.length,0)
  rw [Nat.eq_of_beq_eq_true h.1,Nat.eq_of_beq_eq_true h.2]
 ·exact ⟨_,_,rfl,rfl,rfl⟩
 ·cases h
def kept (σ:Sto) (π π':List (Nat × Nat)) (ks:List Nat) (B1:List (Nat × SB)) (id:Nat):Bool:=match lkP π id with
 | some k=>match lkP π' k,lkB B1 k with
  | some id',⟨0,some bd⟩=>Nat.beq id' id && ks.any (Nat.beq k) && shB (σ id).body (some bd)
  | _,_=>false
 | none=>false
theorem kept_ok {σ:Sto} {π π':List (Nat × Nat)} {ks:List Nat} {B1:List (Nat × SB)} {id:Nat} (h:kept σ π π' ks B1 id=true):∃k∈ks,(id,k)∈π/\(k,id)∈π'/\∃bd bd1,lkB B1 k=⟨0,some bd1⟩/\(σ id).body=some bd/\bd1.sh=bd.sh:=by
 unfold kept at h
 split at h
 ·rename_i k hk
  split at h
  ·rename_i id' bd hk' hb
   simp only [Bool.and_eq_true] at h
   obtain rfl:=Nat.eq_of_beq_eq_true h.1.1
   obtain ⟨k',hk1,hk2⟩:=List.any_eq_true.1 h.1.2
   obtain rfl:=Nat.eq_of_beq_eq_true hk2
   obtain ⟨x,y,e1,e2,e3⟩:=shB_ok h.2
   obtain rfl:=Option.some.inj e2
   exact ⟨k,hk1,lkP_ok hk,lkP_ok hk',x,bd,hb,e1,e3⟩
  ·cases h
 ·cases h
def ep2 (σ:Sto) (π π':List (Nat × Nat)) (ks:List Nat) (B1:List (Nat × SB)) (id:Nat):Nat:=cond (kept σ π π' ks B1 id) (σ id).ep ((σ id).ep+1)
def gone (σ:Sto) (π':List (Nat × Nat)):List (Nat × Nat)->List (Nat × SB)
 | []=>[]
 | p::π=>cond (π'.any fun q=>Nat.beq p.1 q.2) (gone σ π' π) ((p.1,⟨(σ p.1).ep,none⟩)::gone σ π' π)
theorem gone_in {σ:Sto} {π':List (Nat × Nat)}:∀{π:List (Nat × Nat)} {q:Nat × SB},q∈gone σ π' π->q.2=⟨(σ q.1).ep,none⟩/\q.1∈π.map (·.1)
 | [],q,h=>by cases h
 | p::π,q,h=>by
  unfold gone at h
  cases hb:π'.any fun q=>Nat.beq p.1 q.2
  ·rw [hb,cond_false] at h
   rcases List.mem_cons.1 h with rfl | h
   ·exact ⟨rfl,by simp⟩
   ·exact ⟨(gone_in h).1,List.mem_cons_of_mem _ (gone_in h).2⟩
  ·rw [hb,cond_true] at h
   exact ⟨(gone_in h).1,List.mem_cons_of_mem _ (gone_in h).2⟩
theorem gone_all {σ:Sto} {π':List (Nat × Nat)}:∀{π:List (Nat × Nat)} {p:Nat × Nat},p∈π->p.1∈(gone σ π' π).map (·.1)\/p.1∈π'.map (·.2)
 | a::π,p,h=>by
  unfold gone
  cases hb:π'.any fun q=>Nat.beq a.1 q.2
  ·rw [cond_false]
   rcases List.mem_cons.1 h with rfl | h
   ·exact .inl (by simp)
   ·rcases gone_all (σ:=σ) (π':=π') h with h | h
    ·exact .inl (List.mem_cons_of_mem _ h)
    ·exact .inr h
  ·rw [cond_true]
   rcases List.mem_cons.1 h with rfl | h
   ·obtain ⟨q,hq,e⟩:=List.any_eq_true.1 hb
    exact .inr (by rw [Nat.eq_of_beq_eq_true e];exact List.mem_map_of_mem (f:=(·.2)) hq)
   ·exact gone_all h
def okO (σ:Sto) (π π':List (Nat × Nat)) (B0:List (Nat × SB)):Bool :=
 nodupB (π.map (·.2)) && nodupB (π.map (·.1)) && nodupB (π'.map (·.2)) && nodupB (π'.map (·.1)) && π.all (fun p=>Nat.blt p.2 900) && π'.all (fun p=>Nat.blt p.1 900) && nodupB (π'.map (·.2)++(gone σ π' π).map (·.1))
theorem RG.own {P : Program} {N : Nat} {ops : Array Oper} {rest : List Oper} {s : St} {K : St -> List Eff -> Prop} {o : Oper} {c : Call} {f : FuncId} {xs zs zs' : List AV} {r r' : AV} {π π' : List (Nat × Nat)} {ks : List Nat} {B0 B0' B1 up0 : List (Nat × SB)} {d : Option Nat}
    (h:∀q,MDoes P f zs (gl q ks B0) r (gl q ks B1)) (hg:gd ops s o=some true) (ho:o.op = .call c) (ha:argsA s c=some (f,xs))
    (hz:optL (xs.map (rmA π s.σ (fun _=>0)))=some zs') (hz':zs'.map deN=zs) (hb:rmS π s.σ (fun _=>0) π=some B0') (hb':B0'=B0)
    (hu:rmS π' (lkB B1) (ep2 s.σ π π' ks B1) π'=some up0) (hr':rmA π' (lkB B1) (ep2 s.σ π π' ks B1) r=some r') (hk:okO s.σ π π' B0=true) (hd:o.dst=d)
    (hr:RG P N ops rest ⟨putS N s.ts d r',ups s.σ (up0++gone s.σ π' π)⟩ fun s' Es=>K s' (⟨r',up0++gone s.σ π' π,[]⟩::Es)):RG P N ops (o::rest) s K:=by
  subst hz' hb' hd
  unfold argsA at ha
  split at ha
  case h_2=>cases ha
  rename_i fop hc
  split at ha
  case h_2=>cases ha
  rename_i f' first caps hf
  simp only [Option.some.injEq,Prod.mk.injEq] at ha
  obtain ⟨rfl,rfl⟩:=ha
  simp only [okO,Bool.and_eq_true] at hk
  obtain ⟨⟨⟨⟨⟨⟨k1,k2⟩,k3⟩,k4⟩,k5⟩,k6⟩,k7⟩:=hk
  have n1:=nodupB_ok k1
  have n3:=nodupB_ok k3
  obtain ⟨u1,u2⟩:=rmS_ok hu
  obtain ⟨b1,b2⟩:=rmS_ok hb
  have hkeys:((up0++gone s.σ π' π).map (·.1)).Nodup:=by rw [List.map_append,u1];exact nodupB_ok k7
  have hat:∀q∈up0++gone s.σ π' π,ups s.σ (up0++gone s.σ π' π) q.1=q.2:=fun q hq=>ups_at hkeys hq
  have hS0:RmS π s.σ (lkB B0') (fun _=>0):=rmS_RmS hb (fun q hq=>lkB_in (by rw [b1];exact n1) hq) n1
  have hS1:RmS π' (lkB B1) (ups s.σ (up0++gone s.σ π' π)) (ep2 s.σ π π' ks B1):=rmS_RmS hu (fun q hq=>hat q (List.mem_append_left _ hq)) n3
  obtain ⟨z1,z2⟩:=optL_ok hz
  have body2:∀id∈(up0++gone s.σ π' π).map (·.1),∀bd2,(ups s.σ (up0++gone s.σ π' π) id).body=some bd2->∃p∈π',p.2=id/\ups s.σ (up0++gone s.σ π' π) id=⟨ep2 s.σ π π' ks B1 id,some bd2⟩/\∃bd,(lkB B1 p.1).body=some bd/\rmB π' (lkB B1) (ep2 s.σ π π' ks B1) bd=some bd2:=fun id hid bd2 hb2=>by
    obtain ⟨q,hq,rfl⟩:=List.mem_map.1 hid
    rw [hat q hq] at hb2 ⊢
    rcases List.mem_append.1 hq with h1 | h1
    · obtain ⟨p,hp,e1,bd,bd',e2,e3,e4⟩:=u2 q h1
      rw [e4] at hb2
      obtain rfl:=Option.some.inj hb2
      exact ⟨p,hp,e1,by rw [e4,e1],bd,e2,e3⟩
    · rw [(gone_in h1).1] at hb2
      cases hb2
  refine RG.opB hg (fn_bd (h fun _ => none).fn ho hc hf) (oploc_callO (π := π) (π' := π') (ks := ks) ho hc hf h (by rw [List.length_map]; exact z1) (fun j x z hx hz => by
      rw [List.getElem?_map] at hz
      obtain ⟨y,hy,rfl⟩:=Option.map_eq_some_iff.1 hz
      exact (rmA_ok hS0 (z2 j x y hx hy)).deN) n1 (nodupB_ok k2) (fun p hp=>Nat.le_of_ble_eq_true (List.all_eq_true.1 k5 p hp)) (fun k bd' hbd=>?_) (fun p hp=>?_) n3
    (fun p hp q hq e=>?_) (fun p hp=>Nat.le_of_ble_eq_true (List.all_eq_true.1 k6 p hp)) (fun p hp=>?_) (fun id hid bd2 hb2=>?_) (fun id hid=>?_) (fun id hid he bd2 hb2=>?_) (rmA_ok hS1 hr')) hr
  · obtain ⟨q,hq,e1,e2⟩:=lkB_some hbd
    obtain ⟨p,hp,e3,bd,bd1,e4,e5,e6⟩:=b2 q hq
    rw [<- e2,e6] at hbd
    obtain rfl:=Option.some.inj hbd
    exact ⟨p,hp,e3.trans e1,bd,e4,rmB_ok hS0 e5⟩
  · rw [List.map_append,List.mem_append,u1]
    exact (gone_all hp).symm
  · have : ∀ (l : List (Nat × Nat)), (l.map (·.1)).Nodup -> p ∈ l -> q ∈ l -> p = q := by
      intro l
      induction l with
      | nil=>intro _ h;cases h
      | cons a l ih =>
        intro hl h5 h6
        rw [List.map_cons,List.nodup_cons] at hl
        rcases List.mem_cons.1 h5 with g5 | g5 <;> rcases List.mem_cons.1 h6 with g6 | g6
        · rw [g5,g6]
        · exact (hl.1 (by rw [<- g5,e];exact List.mem_map_of_mem (f:=(·.1)) g6)).elim
        · exact (hl.1 (by rw [<- g6,<- e];exact List.mem_map_of_mem (f:=(·.1)) g5)).elim
        · exact ih hl.2 g5 g6
    exact this π' (nodupB_ok k4) hp hq
  · rw [List.map_append,List.mem_append,u1]
    exact .inl (List.mem_map_of_mem (f:=(·.2)) hp)
  · obtain ⟨p,hp,e1,_,bd,e2,e3⟩:=body2 id hid bd2 hb2
    exact ⟨p,hp,e1,bd,e2,rmB_ok hS1 e3⟩
  · obtain ⟨q,hq,rfl⟩:=List.mem_map.1 hid
    rw [hat q hq]
    rcases List.mem_append.1 hq with h1 | h1
    · obtain ⟨p,hp,e1,bd,bd',e2,e3,e4⟩:=u2 q h1
      rw [e4,e1]
      unfold ep2
      cases kept s.σ π π' ks B1 q.1
      · exact Nat.le_succ _
      · exact Nat.le_refl _
    · rw [(gone_in h1).1];exact Nat.le_refl _
  · obtain ⟨p,hp,e1,e0,bd,e2,e3⟩:=body2 id hid bd2 hb2
    rw [e0] at he
    have hkp:kept s.σ π π' ks B1 id=true:=by
      replace he:ep2 s.σ π π' ks B1 id=(s.σ id).ep:=he
      unfold ep2 at he
      cases hk:kept s.σ π π' ks B1 id
      · rw [hk,cond_false] at he;omega
      · rfl
    obtain ⟨k,hk,m1,m2,bd0,bd1,g1,g2,g3⟩:=kept_ok hkp
    have hbd:rmB π' (lkB B1) (ep2 s.σ π π' ks B1) bd1=some bd2:=by
      have:p=(k,id):=by
        have:∀(l:List (Nat × Nat)),(l.map (·.2)).Nodup->p∈l->(k,id)∈l->p=(k,id):=by
          intro l
          induction l with
          | nil=>intro _ h;cases h
          | cons a l ih =>
            intro hl h5 h6
            rw [List.map_cons,List.nodup_cons] at hl
            rcases List.mem_cons.1 h5 with g5 | g5 <;> rcases List.mem_cons.1 h6 with g6 | g6
            · rw [g5,g6]
            · exact (hl.1 (by rw [<- g5,e1];exact List.mem_map_of_mem (f:=(·.2)) g6)).elim
            · exact (hl.1 (by rw [<- g6];show id∈_;rw [<- e1];exact List.mem_map_of_mem (f:=(·.2)) g5)).elim
            · exact ih hl.2 g5 g6
        exact this π' n3 hp m2
      rw [this] at e2
      have:bd=bd1:=Option.some.inj (e2.symm.trans (by show (lkB B1 k).body=_;rw [g1]))
      rw [<- this];exact e3
    refine ⟨k,hk,m1,m2,⟨bd1,g1⟩,bd0,g2,?_⟩
    rw [<- g3]
    have hR:=rmB_ok hS1 hbd
    cases hR with
    | box hl _ _=>show (true,_,_,0)=(true,_,_,0);rw [hl]
    | row=>rfl
    | obj=>rfl
def ownR (σ:Sto) (π π':List (Nat × Nat)) (ks:List Nat) (B1:List (Nat × SB)) (r:AV):Option (AV × List (Nat × SB)) :=
 match rmS π' (lkB B1) (ep2 σ π π' ks B1) π',rmA π' (lkB B1) (ep2 σ π π' ks B1) r with
 | some up0,some r'=>forceV r' fun r'=>forceUN (up0++gone σ π' π) fun up=>some (r',up)
 | _,_=>none
theorem RG.ownN {P:Program} {N:Nat} {ops:Array Oper} {rest:List Oper} {ts:Nat->AV} {σ:Sto} {K:St->List Eff->Prop} {o:Oper} {c:Call} {f:FuncId} {xs zs zs':List AV} {r r':AV} (π π':List (Nat × Nat)) {ks:List Nat} {B0 B0' B1 up:List (Nat × SB)} {d:Option Nat}
  (h:∀q,MDoes P f zs (gl q ks B0) r (gl q ks B1)) (hg:gd ops ⟨ts,σ⟩ o=some true) (ho:o.op = .call c) (ha:argsA ⟨ts,σ⟩ c=some (f,xs))
  (hz:optL (xs.map (rmA π σ (fun _=>0)))=some zs') (hz':zs'.map deN=zs) (hb:rmS π σ (fun _=>0) π=some B0') (hb':B0'=B0)
  (hu:ownR σ π π' ks B1 r=some (r',up)) (hk:okO σ π π' B0=true) (hd:o.dst=d)
  (hr:RG P N ops rest ⟨putS N ts d r',ups σ up⟩ fun s' Es=>K s' (⟨r',up,[]⟩::Es)):RG P N ops (o::rest) ⟨ts,σ⟩ K:=by
 unfold ownR at hu
 split at hu
 ·rename_i up0 r1 e1 e2
  simp only [forceV_eq,forceUN_eq,Option.some.injEq,Prod.mk.injEq] at hu
  obtain ⟨rfl,rfl⟩:=hu
  exact RG.own h hg ho ha hz hz' hb hb' e1 e2 hk hd hr
 ·cases hu
end Go.Proofs.YthgbdoofchknhaaGreatDoor.Sm
end
section
namespace Go.Proofs.YthgbdoofchknhaaGreatDoor.Sm
open Go.RowKit
theorem loadVar_rel {P:Program} {W:World} {F:Nat->Prop} {μ:Mu} {σ:Sto} (hi:Inv W F μ σ) {t:TypeId} {ti:TI} {x:AV} {v0:Value} {cs:List AV} {l:List Nat} {r:AV} (ht:TiOk P t ti) (hx:Rel W F μ σ x v0) (hp:CA σ x cs l) (hr:ldA ti cs=some r) :
  ∃A,v0 = .pointer (some A)/\∃v,(loadVar t A).run P W = .ok v W/\Rel W F μ σ r v:=by
 obtain ⟨b,off,hv,hc⟩:=hp.cells hi hx
 refine ⟨_,hv,?_⟩
 unfold ldA at hr
 cases hag:ti.k.ag with
 | true =>
  rw [hag,cond_true] at hr
  cases hle:Nat.ble ti.n cs.length with
  | false=>rw [hle] at hr;cases hr
  | true =>
   have hn:ti.n<=cs.length:=Nat.le_of_ble_eq_true hle
   rw [hle,cond_true] at hr
   obtain rfl:=Option.some.inj hr
   let f:Nat->Value:=fun j=>(W.cell? ⟨b,off+j,none⟩).getD undef
   have get:∀(j:Nat) (y:AV),cs[j]?=some y->W.cell? ⟨b,off+j,none⟩=some (f j)/\y.one=true/\Rel W F μ σ y (f j):=fun j y hj=>by
    obtain ⟨g1,u,g2,g3⟩:=hc j y hj
    have:f j=u:=by simp only [f,g2];rfl
    exact ⟨by rw [this];exact g2,g1,by rw [this];exact g3⟩
   have hrun:(loadCells ⟨b,off,none⟩ ti.n).run P W = .ok ((List.range ti.n).map f).toArray W:=run_loadCells W _ ti.n f fun j hj=>by
    rw [ca_ptr (W:=W)]
    exact (get j _ (List.getElem?_eq_getElem (by omega))).1
   refine ⟨.agg ((List.range ti.n).map f).toArray,?_,.agg _ _ ?_ (fun j x hj=>?_) (fun j x v hj hv'=>?_)⟩
   ·simp only [loadVar,Sem.run_bind,Sem.run_pure,Result.andThen_ok,ht.agg,hag,if_true,ht.size,hrun]
   ·simp;omega
   ·rw [List.getElem?_take] at hj
    split at hj
    ·exact (get j x hj).2.1
    ·cases hj
   ·rw [List.getElem?_take] at hj
    split at hj
    ·rename_i hlt
     have:f j=v:=by simpa [hlt] using hv'
     rw [<- this]
     exact (get j x hj).2.2
    ·cases hj
 | false =>
  rw [hag,cond_false,List.head?_eq_getElem?] at hr
  obtain ⟨g1,u,g2,g3⟩:=hc 0 _ hr
  refine ⟨u,?_,g3⟩
  have hrun:(load ⟨b,off,none⟩).run P W = .ok u W:=by simp [load,Sem.run,show W.cell? ⟨b,off,none⟩=some u from g2]
  simp only [loadVar,Sem.run_bind,Sem.run_pure,Result.andThen_ok,ht.agg,hag,Bool.false_eq_true,if_false,hrun]
def RnL (σ σ':Sto):List AV->List AV->Prop
 | [],[]=>True
 | x::xs,y::ys=>Rn σ σ' x y/\RnL σ σ' xs ys
 | _,_=>False
theorem rnL_ok {σ σ':Sto}:∀{xs ys:List AV},RnL σ σ' xs ys->ys.length=xs.length/\∀(j:Nat) (x y:AV),xs[j]?=some x->ys[j]?=some y->Rn σ σ' x y
 | [],[],_=>⟨rfl,fun j x y h=>by simp at h⟩
 | x::xs,y::ys,h=>by
  obtain ⟨h1,h2⟩:=rnL_ok h.2
  refine ⟨by simp [h1],fun j a b ha hb=>?_⟩
  cases j with
  | zero =>
   obtain rfl:x=a:=by simpa using ha
   obtain rfl:y=b:=by simpa using hb
   exact h.1
  | succ j=>exact h2 j a b (by simpa using ha) (by simpa using hb)
 | [],_::_,h=>h.elim
 | _::_,[],h=>h.elim
theorem WkB1.boxL {s:St} {σ':Sto} {id:Nat} {t:TypeId} {cs cs':List AV} {ep ep':Nat} (h:s.σ id=⟨ep,some (.box t cs)⟩) (hc:RnL s.σ σ' cs cs') (h1:cs'.all AV.one=true):WkB1 s σ' id ⟨ep',some (.box t cs')⟩ :=
 .box h (rnL_ok hc).1 h1 (rnL_ok hc).2
theorem retM1 {P:Program} {fn:Func} {t:Tmp} {s:St} {b1:List (Nat × SB)} {r:AV} (hr:fn.results = #[.tmp t]) (hx:Rm (b1.map fun p=>(p.1,p.1)) s.σ (lkB b1) (s.ts t) r) (hB:WkB s (lkB b1) b1):retM P fn r b1 .ret s :=
 ⟨.inr rfl,_,res_tmp hr s,hx,hB⟩
end Go.Proofs.YthgbdoofchknhaaGreatDoor.Sm
end
end
section
namespace Go.Proofs.YthgbdoofchknhaaGreatDoor.Sm
open Go.RowKit
def eqFs (T:TT) (f:Nat->AV->AV->Option Bool) (cs ds:List AV):List (Nat × Nat)->Option Bool
 | []=>some true
 | p::fs=>match tget T p.1 with
  | some fi=>match prtA fi p.2 cs,prtA fi p.2 ds with
   | some a,some b=>match f p.1 a b,eqFs T f cs ds fs with
    | some r,some q=>some (r && q)
    | _,_=>none
   | _,_=>none
  | none=>none
def eqRs (f:AV->AV->Option Bool) (ei:TI) (cs ds:List AV):Nat->Nat->Option Bool
 | 0,_=>some true
 | m+1,i=>match prtA ei (i*ei.n) cs,prtA ei (i*ei.n) ds with
  | some a,some b=>match f a b,eqRs f ei cs ds m (i+1) with
   | some r,some q=>some (r && q)
   | _,_=>none
  | _,_=>none
def eqA (T:TT):Nat->Nat->AV->AV->Option Bool
 | 0,_,_,_=>none
 | k+1,t,x,y=>match tget T t with
  | some ⟨.strct fs,_,_,_⟩=>match x,y with
   | .agg cs,.agg ds=>eqFs T (eqA T k) cs ds fs
   | _,_=>none
  | some ⟨.arr n e,_,_,_⟩=>match x,y with
   | .agg cs,.agg ds=>match tget T e with
    | some ei=>eqRs (eqA T k e) ei cs ds n 0
    | none=>none
   | _,_=>none
  | some ⟨.bool,_,_,_⟩=>match x,y with
   | .b p,.b q=>some (p == q)
   | _,_=>none
  | some ⟨.str,_,_,_⟩=>match x,y with
   | .s p,.s q=>some (decide (p=q))
   | _,_=>none
  | some ⟨.int _,_,_,_⟩=>match x,y with
   | .i k p,.i k' q=>if k=k' then some (decide (p=q)) else none
   | .u p,.u q=>some (decide (p=q))
   | .y p,.y q=>some (decide (p=q))
   | _,_=>none
  | _=>none
def eqP (P:Program) (T:TT):Nat->Nat->Bool
 | 0,_=>false
 | k+1,t=>match P.underlying t with
  | some (.struct fs) => !P.stoodInHeld t && fs.toList.all fun f => (decide (f.name ≠ "_")) && eqP P T k f.type
  | some (.array _ e)=>eqP P T k e
  | _=>true
section
variable {P : Program} {T : TT} {W : World} {F : Nat -> Prop} {μ : Mu} {σ : Sto}
theorem eqIn_str' {t:TypeId} (hu:P.underlying t=some .string) (d:Nat) (p q:List UInt8):(Op.equalIn (d+1) t (.string ⟨p.toArray⟩) (.string ⟨q.toArray⟩)).run P W = .ok (decide (p=q)) W:=by
 simp only [Op.equalIn,Sem.run_bind,run_underlying hu,Result.andThen_ok,Sem.run_pure]
 congr 1
 rw [beq_toListBytes,ByteArray.toList_eq,ByteArray.toList_eq,Bool.eq_iff_iff]
 simp
theorem eqIn_int' {t:TypeId} {k0:IntKind} (hu:P.underlying t=some (.int k0)) (d:Nat) (k:IntKind) (p q:Int):(Op.equalIn (d+1) t (.int k p) (.int k q)).run P W = .ok (decide (p=q)) W:=by
 simp only [Op.equalIn,Sem.run_bind,run_underlying hu,Result.andThen_ok,if_true,Sem.run_pure]
 congr 1
theorem dd64 (p q:UInt64):decide ((p.toNat:Int)=(q.toNat:Int))=decide (p=q):=decide_eq_decide.2 (by rw [u64_eq_iff])
theorem dd8 (p q:UInt8):decide ((p.toNat:Int)=(q.toNat:Int))=decide (p=q):=decide_eq_decide.2 (by rw [u8_eq_iff])
theorem eqFs_run {f:Nat->AV->AV->Option Bool} {d:Nat} {cs ds:List AV} {vs us:List Value} (hT:tabB P T=true) (hl:vs.length=cs.length) (h1:∀(j:Nat) (x:AV),cs[j]?=some x->x.one=true) (hp:∀(j:Nat) (x:AV) (v:Value),cs[j]?=some x->vs[j]?=some v->Rel W F μ σ x v)
  (hl':us.length=ds.length) (h1':∀(j:Nat) (x:AV),ds[j]?=some x->x.one=true) (hp':∀(j:Nat) (x:AV) (v:Value),ds[j]?=some x->us[j]?=some v->Rel W F μ σ x v) :
  ∀ (fs : List Field) (_ : ∀ g ∈ fs, g.name ≠ "_" /\ ∀ a b r, f g.type a b = some r -> ∀ v u, Rel W F μ σ a v -> Rel W F μ σ b u -> (Op.equalIn d g.type v u).run P W = .ok r W) (r : Bool), eqFs T f cs ds (fs.map fun g => (g.type, g.offset)) = some r -> (Op.eqFields d vs.toArray us.toArray fs).run P W = .ok r W
 | [],_,r,h=>by
  obtain rfl:=Option.some.inj h
  rfl
 | g::fs,hg,r,h=>by
  simp only [List.map_cons,eqFs] at h
  split at h
  case h_2=>cases h
  rename_i fi hfi
  split at h
  case h_2=>cases h
  rename_i a b ha hb
  split at h
  case h_2=>cases h
  rename_i r1 r2 hr1 hr2
  obtain rfl:=Option.some.inj h
  obtain ⟨v,hv,rv⟩:=part_ok (W:=W) (tab_ok hT hfi) hl h1 hp ha
  obtain ⟨u,hu,ru⟩:=part_ok (W:=W) (tab_ok hT hfi) hl' h1' hp' hb
  have he:=(hg g List.mem_cons_self).2 a b r1 hr1 v u rv ru
  have ih:=eqFs_run (f:=f) (d:=d) hT hl h1 hp hl' h1' hp' fs (fun g' hg'=>hg g' (List.mem_cons_of_mem _ hg')) r2 hr2
  simp only [Op.eqFields,if_pos (hg g List.mem_cons_self).1,Sem.run_bind,hv,hu,he,Result.andThen_ok]
  cases r1 with
  | true=>simpa using ih
  | false=>simp
theorem eqRs_run {f:AV->AV->Option Bool} {d e:Nat} {ei:TI} {cs ds:List AV} {vs us:List Value} (he:TiOk P e ei) (hl:vs.length=cs.length) (h1:∀(j:Nat) (x:AV),cs[j]?=some x->x.one=true) (hp:∀(j:Nat) (x:AV) (v:Value),cs[j]?=some x->vs[j]?=some v->Rel W F μ σ x v)
  (hl':us.length=ds.length) (h1':∀(j:Nat) (x:AV),ds[j]?=some x->x.one=true) (hp':∀(j:Nat) (x:AV) (v:Value),ds[j]?=some x->us[j]?=some v->Rel W F μ σ x v)
  (hf:∀a b r,f a b=some r->∀v u,Rel W F μ σ a v->Rel W F μ σ b u->(Op.equalIn d e v u).run P W = .ok r W) :
  ∀(m i:Nat) (r:Bool),eqRs f ei cs ds m i=some r->(forIn (List.range' i m) ((none,()):Option Bool × Unit) fun i _=>(do
    let a <- part e vs.toArray (i*ei.n)
    let b <- part e us.toArray (i*ei.n)
    let c <- Op.equalIn d e a b
    if (!c)=true then pure (ForInStep.done (some false,())) else pure (ForInStep.yield (none,())):Sem (ForInStep (Option Bool × Unit)))).run P W = .ok (cond r none (some false),()) W
 | 0,i,r,h=>by
  obtain rfl:=Option.some.inj h
  simp
 | m+1,i,r,h=>by
  simp only [eqRs] at h
  split at h
  case h_2=>cases h
  rename_i a b ha hb
  split at h
  case h_2=>cases h
  rename_i r1 r2 hr1 hr2
  obtain rfl:=Option.some.inj h
  obtain ⟨v,hv,rv⟩:=part_ok (W:=W) he hl h1 hp ha
  obtain ⟨u,hu,ru⟩:=part_ok (W:=W) he hl' h1' hp' hb
  have hq:=hf a b r1 hr1 v u rv ru
  have ih:=eqRs_run (f:=f) (d:=d) he hl h1 hp hl' h1' hp' hf m (i+1) r2 hr2
  simp only [List.range'_succ,List.forIn_cons,Sem.run_bind,hv,hu,hq,Result.andThen_ok]
  cases r1 with
  | true=>simpa using ih
  | false=>simp
theorem eqA_run (hT:tabB P T=true):∀(k:Nat) (d:Nat) (_:k<=d) (t:TypeId) (x y:AV) (r:Bool),eqP P T k t=true->eqA T k t x y=some r->∀v u,Rel W F μ σ x v->Rel W F μ σ y u->(Op.equalIn d t v u).run P W = .ok r W
 | 0,_,_,_,_,_,_,hp,_,_,_,_,_=>by cases hp
 | k+1,0,hd,_,_,_,_,_,_,_,_,_,_=>by omega
 | k+1,d+1,hd,t,x,y,r,hp,h,v,u,hv,hu=>by
  have ih:=fun t x y r=>eqA_run hT k d (by omega) t x y r
  simp only [eqA] at h
  split at h
  ·rename_i fs n sz z ht
   have hti:=tab_ok hT ht
   split at h
   case h_2=>cases h
   rename_i cs ds
   obtain ⟨fs',hU,hfs⟩:=hti.strct rfl
   obtain ⟨vs,rfl,hl,h1,hr⟩:=hv.agg'
   obtain ⟨us,rfl,hl',h1',hr'⟩:=hu.agg'
   have hF:P.underlying t=some (.struct (P.fieldsOf t)):=by rw [Program.fieldsOf,hU]
   have hf2:P.fieldsOf t=fs':=by rw [Program.fieldsOf,hU]
   simp only [eqP,hU,Bool.and_eq_true,Bool.not_eq_true',List.all_eq_true,decide_eq_true_eq] at hp
   rw [run_equalIn_struct W d t _ _ hF hp.1,hf2]
   refine eqFs_run hT hl h1 hr hl' h1' hr' fs'.toList (fun g hg=>⟨(hp.2 g hg).1,fun a b r he v u hv hu=>ih g.type a b r (hp.2 g hg).2 he v u hv hu⟩) r ?_
   rw [hfs];exact h
  ·rename_i n e n' sz z ht
   have hti:=tab_ok hT ht
   split at h
   case h_2=>cases h
   rename_i cs ds
   split at h
   case h_2=>cases h
   rename_i ei hei
   have hU:=hti.array rfl
   obtain ⟨vs,rfl,hl,h1,hr⟩:=hv.agg'
   obtain ⟨us,rfl,hl',h1',hr'⟩:=hu.agg'
   have hee:=tab_ok hT hei
   simp only [eqP,hU] at hp
   have:=eqRs_run (d:=d) hee hl h1 hr hl' h1' hr' (fun a b r he v u hv hu=>ih e a b r hp he v u hv hu) n 0 r h
   rw [Op.equalIn]
   simp only [Sem.run_bind,run_underlying hU,Result.andThen_ok,hee.size,Std.Legacy.Range.forIn_eq_forIn_range',Std.Legacy.Range.size]
   rw [show (n - 0+1 - 1) / 1=n by simp,this]
   cases r <;> rfl
  ·rename_i n sz z ht
   split at h
   case h_2=>cases h
   obtain rfl:=Option.some.inj h
   rw [hv.b',hu.b']
   exact eqIn_bool ((tab_ok hT ht).bool rfl) W d _ _
  ·rename_i n sz z ht
   split at h
   case h_2=>cases h
   obtain rfl:=Option.some.inj h
   rw [hv.s',hu.s']
   exact eqIn_str' ((tab_ok hT ht).str rfl) d _ _
  ·rename_i k0 n sz z ht
   have hU:=(tab_ok hT ht).int rfl
   split at h
   ·split at h
    case isFalse=>cases h
    rename_i he
    subst he
    obtain rfl:=Option.some.inj h
    rw [hv.i',hu.i']
    exact eqIn_int' hU d _ _ _
   ·obtain rfl:=Option.some.inj h
    rw [hv.u',hu.u']
    exact (eqIn_int' hU d _ _ _).trans (by rw [dd64])
   ·obtain rfl:=Option.some.inj h
    rw [hv.y',hu.y']
    exact (eqIn_int' hU d _ _ _).trans (by rw [dd8])
   ·cases h
  ·cases h
end
theorem op_eqG {P:Program} {N:Nat} {T:TT} {o:Oper} {s:St} {t yt:TypeId} {x y:Operand} {cs ds:List AV} {b r:Bool} (ho:o.op = .binOp .eql t x y yt) (hT:tabB P T=true) (hP:eqP P T 6 t=true) (hg:P.eqGuardType P.depth t=false) (hx:s.ev x = .agg cs) (hy:s.ev y = .agg ds) (he:eqA T 6 t (.agg cs) (.agg ds)=some b) (hb:b=r):OpLoc P N o s ⟨.b r,[],[]⟩:=by
 subst hb
 refine oploc_val [] _ fun s' W F μ a h1 h2 hr=>⟨.bool b,?_,.pure (.b b)⟩
 have ex:=hr.ev x
 have ey:=hr.ev y
 rw [h1 x (by rw [ho];simp [Op.operands]),hx] at ex
 rw [h1 y (by rw [ho];simp [Op.operands]),hy] at ey
 have hq:=eqA_run (W:=W) hT 6 10000 (by omega) t _ _ b hP he _ _ ex ey
 obtain ⟨vs,ev,_⟩:=ex.agg'
 obtain ⟨us,eu,_⟩:=ey.agg'
 rw [ev,eu] at hq
 simp only [execOp,ho,ev,eu,Sem.run_bind,run_eqGuard_agg W _ _ _ _ _ _ hg,Result.andThen_ok,run_eql_struct,hq,Sem.run_pure]
theorem op_neG {P:Program} {N:Nat} {T:TT} {o:Oper} {s:St} {t yt:TypeId} {x y:Operand} {cs ds:List AV} {b r:Bool} (ho:o.op = .binOp .neq t x y yt) (hT:tabB P T=true) (hP:eqP P T 6 t=true) (hg:P.eqGuardType P.depth t=false) (hx:s.ev x = .agg cs) (hy:s.ev y = .agg ds) (he:eqA T 6 t (.agg cs) (.agg ds)=some b) (hb:(!b)=r):OpLoc P N o s ⟨.b r,[],[]⟩:=by
 subst hb
 refine oploc_val [] _ fun s' W F μ a h1 h2 hr=>⟨.bool (!b),?_,.pure (.b _)⟩
 have ex:=hr.ev x
 have ey:=hr.ev y
 rw [h1 x (by rw [ho];simp [Op.operands]),hx] at ex
 rw [h1 y (by rw [ho];simp [Op.operands]),hy] at ey
 have hq:=eqA_run (W:=W) hT 6 10000 (by omega) t _ _ b hP he _ _ ex ey
 obtain ⟨vs,ev,_⟩:=ex.agg'
 obtain ⟨us,eu,_⟩:=ey.agg'
 rw [ev,eu] at hq
 simp only [execOp,ho,ev,eu,Sem.run_bind,run_eqGuard_agg W _ _ _ _ _ _ hg,Result.andThen_ok,run_neq_struct,hq,Sem.run_pure]
def resA (T:TT) (s:St):ResultVar->Option AV
 | .tmp t=>some (s.ts t)
 | .cell a ty=>match tget T ty,caA s.σ (s.ts a) with
  | some ti,some (cs,_)=>ldA ti cs
  | _,_=>none
def resFn (tmps:Array Value):ResultVar->Sem Value
 | .tmp t=>pure (tmps.getD t undef)
 | .cell p t=>do loadVar t (<- asAddr (tmps.getD p undef))
theorem results_eq (fn:Func) (tmps:Array Value):results fn tmps=(do
  let vs <- fn.results.mapM (resFn tmps)
  pure (if h:vs.size=1 then vs[0] else .tuple vs)):=by
 have h:(fun (r:ResultVar)=>(match r with | .tmp t=>pure (tmps.getD t undef) | .cell p t=>do loadVar t (<- asAddr (tmps.getD p undef)):Sem Value))=resFn tmps:=by
  funext r
  cases r <;> rfl
 rw [<- h]
 rfl
def resV:List AV->AV
 | [x]=>x
 | xs=>.tup xs
theorem resL_run {P:Program} {T:TT} (hT:tabB P T=true) {N:Nat} {s:St} {W:World} {F:Nat->Prop} {μ:Mu} {a:Act} (hr:RS N W F μ s a):∀(rs:List ResultVar) (xs:List AV),optL (rs.map (resA T s))=some xs->∃vs:List Value,(rs.mapM (resFn a.tmps)).run P W = .ok vs W/\vs.length=xs.length/\∀(j:Nat) (x:AV) (v:Value),xs[j]?=some x->vs[j]?=some v->Rel W F μ s.σ x v
 | [],xs,h=>by
  obtain rfl:=Option.some.inj h
  exact ⟨[],rfl,rfl,pw_nil⟩
 | r::rs,xs,h=>by
  simp only [List.map_cons] at h
  cases hq:resA T s r with
  | none=>rw [hq] at h;cases h
  | some x =>
   rw [hq] at h
   simp only [optL] at h
   split at h
   case h_2=>cases h
   rename_i xs' hxs
   obtain rfl:=Option.some.inj h
   obtain ⟨vs,g1,g2,g3⟩:=resL_run hT hr rs xs' hxs
   have hone:∃v,(resFn a.tmps r).run P W = .ok v W/\Rel W F μ s.σ x v:=by
    cases r with
    | tmp t =>
     obtain rfl:=Option.some.inj hq
     exact ⟨_,rfl,hr.ts t⟩
    | cell p ty =>
     simp only [resA] at hq
     split at hq
     case h_2=>cases hq
     rename_i ti cs l ht hca
     obtain ⟨A,hA,v,hrun,hv⟩:=loadVar_rel hr.inv (tab_ok hT ht) (hr.ts p) (caA_ok hca) hq
     refine ⟨v,?_,hv⟩
     simp only [resFn,Sem.run_bind,hA]
     simpa [asAddr] using hrun
   obtain ⟨v,hv1,hv2⟩:=hone
   refine ⟨v::vs,?_,by simp [g2],pw_cons hv2 g3⟩
   rw [List.mapM_cons,Sem.run_bind,hv1,Result.andThen_ok,Sem.run_bind,g1,Result.andThen_ok]
   rfl
theorem resL_ok {P:Program} {T:TT} (hT:tabB P T=true) {fn:Func} {s:St} {rs:List ResultVar} {xs:List AV} (hrs:fn.results.toList=rs) (h:optL (rs.map (resA T s))=some xs):ResOk P fn s (resV xs):=by
 subst hrs
 intro W F μ a hr
 obtain ⟨vs,g1,g2,g3⟩:=resL_run hT hr _ _ h
 have hm:(fn.results.mapM (resFn a.tmps)).run P W = .ok vs.toArray W:=by
  rw [Array.mapM_eq_mapM_toList]
  rw [map_eq_pure_bind,Sem.run_bind,g1]
  rfl
 rw [results_eq,Sem.run_bind,hm,Result.andThen_ok]
 match vs,xs,g2,g3 with
 | [v],[x],_,g3=>exact ⟨v,rfl,g3 0 x v rfl rfl⟩
 | [],[],_,g3=>exact ⟨_,rfl,.tup [] [] rfl g3⟩
 | v::u::vs,x::y::xs,g2,g3 =>
  refine ⟨.tuple (v::u::vs).toArray,?_,.tup (x::y::xs) (v::u::vs) g2 g3⟩
  simp
theorem retQA {P:Program} {T:TT} (hT:tabB P T=true) {fn:Func} {s:St} {rs:List ResultVar} {xs:List AV} {y r:AV} {l:List Nat} (hrs:fn.results.toList=rs) (h:optL (rs.map (resA T s))=some xs) (hz:fzA s.σ 6 (resV xs)=some (y,l)) (hy:y=r):retQ P fn r .ret s :=
 ⟨.inr rfl,_,l,resL_ok hT hrs h,by rw [<- hy];exact fzA_ok 6 hz⟩
theorem retMA {P:Program} {T:TT} (hT:tabB P T=true) {fn:Func} {s:St} {b1:List (Nat × SB)} {rs:List ResultVar} {xs:List AV} {r:AV} (hrs:fn.results.toList=rs) (h:optL (rs.map (resA T s))=some xs) (hx:Rm (b1.map fun p=>(p.1,p.1)) s.σ (lkB b1) (resV xs) r) (hB:WkB s (lkB b1) b1):retM P fn r b1 .ret s :=
 ⟨.inr rfl,_,resL_ok hT hrs h,hx,hB⟩
theorem op_nilRow (id:Nat) (t:TypeId) (m:Nat) {P:Program} {N:Nat} {o:Oper} {s:St} (ho:o.op = .assign (.const (.slice none 0 0))):OpLoc P N o s ⟨.row id ((s.σ id).ep+1) 0 0,[(id,⟨(s.σ id).ep+1,some (.row t m [])⟩)],[]⟩:=by
 intro s' h1 h2 h3 W F μ a hr K Q hK
 have hid:s'.σ id=s.σ id:=h3 (id,⟨(s.σ id).ep+1,some (.row t m [])⟩) (by simp)
 have hrun:(execOp a.eval o).run P W = .ok (.value (.slice none 0 0)) W:=by
  simp only [execOp,ho,Sem.run_pure]
  rfl
 obtain ⟨hs,hi⟩:=inv_turn hr.inv id none ((s.σ id).ep+1) (.row t m []) (Kp.refl _ W) (fun b c e=>by cases e) (.inl (by rw [hid];omega)) (fun _=>.inl ⟨rfl,rfl⟩)
 have hσ:up1 s'.σ id ⟨(s.σ id).ep+1,some (.row t m [])⟩ id=⟨(s.σ id).ep+1,some (.row t m [])⟩:=by rw [up1_eq,if_pos rfl]
 have hμ:upm μ id none id=none:=if_pos rfl
 have hv:Rel W F (upm μ id none) (up1 s'.σ id ⟨(s.σ id).ep+1,some (.row t m [])⟩) (.row id ((s.σ id).ep+1) 0 0) (.slice none 0 0) :=
  .row _ _ _ _ _ (by rw [hσ];exact Nat.le_refl _) rfl fun bd' m' l' h _=>⟨by omega,by rw [hμ]⟩
 unfold Oper.wp
 rw [hrun]
 exact hK W F _ _ (hr.put hs hi hv) hs
theorem op_app1 {α:Type} (cF:α->List AV) (l:List α) (x:α) (hL:l.length<=100000000) {P:Program} {N:Nat} {o:Oper} {s:St} {c:Call} {xo yo:Operand} {t e id id2 ep2:Nat} {ti ei:TI} (ho:o.op = .call c) (hc:c.callee = .builtin .append) (ha:c.args = #[xo,yo]) (hat:c.argTypes = #[t,t]) (ht:TiOk P t ti) (hk:ti.k = .slice e) (he:TiOk P e ei) (h0:(ei.n == 0)=false) (hsz:Nat.ble ei.sz 1000=true)
  (hx:∃ep,s.ev xo = .row id ep 0 (l.map cF).length/\s.σ id=⟨ep,some (.row e ei.n (l.map cF))⟩) (hy:s.ev yo = .row id2 ep2 0 1) (hid2:s.σ id2=⟨ep2,some (.row e ei.n [cF x])⟩) :
  OpLoc P N o s ⟨.row id ((s.σ id).ep+1) 0 ((l++[x]).map cF).length,[(id,⟨(s.σ id).ep+1,some (.row e ei.n ((l++[x]).map cF))⟩)],[id2]⟩:=by
 have h2:=Nat.le_of_ble_eq_true hsz
 refine op_appendR (els:=l.map cF) (els2:=[cF x]) ho hc ha hat ht hk he h0 (.inl hx) hy hid2 ?_ ?_ (by simp) rfl
 ·rw [List.length_map]
  show (l.length+1)*ei.sz<=_
  exact Nat.le_trans (Nat.mul_le_mul (show l.length+1<=100000001 by omega) h2) (by decide)
 ·rw [List.length_map]
  show l.length+1<=_
  omega
theorem rowAll {X Y:List (List AV)} (h:X=Y):AV.sl (List.take X.length (List.drop 0 X)) = .sl Y:=by
 rw [List.drop_zero,List.take_length,h]
end Go.Proofs.YthgbdoofchknhaaGreatDoor.Sm
end
section
namespace Go.Proofs.YthgbdoofchknhaaGreatDoor.Sm
open Go.RowKit
deriving instance DecidableEq for Hd
deriving instance DecidableEq for Cb
deriving instance DecidableEq for Ac
deriving instance DecidableEq for Rl
deriving instance DecidableEq for Pt
deriving instance DecidableEq for Wy
deriving instance DecidableEq for Pr
deriving instance DecidableEq for Cfg
theorem eq_Pt (a b:Pt):eqA tyT 6 107 (.agg (encPt a)) (.agg (encPt b))=some (decide (a=b)):=by
 show some (decide (i64of a.kind=i64of b.kind) && (decide (i64of a.tenant=i64of b.tenant) && (decide (i64of a.peer=i64of b.peer) && (decide (i64of a.at_=i64of b.at_) && (decide (i64of a.cost=i64of b.cost) && true)))))=_
 obtain ⟨akind,atenant,apeer,aat_,acost⟩:=a
 obtain ⟨bkind,btenant,bpeer,bat_,bcost⟩:=b
 congr 1
 rw [Bool.eq_iff_iff]
 simp [i64of_eq,and_assoc]
theorem eq_Wy (a b:Wy):eqA tyT 6 98 (.agg (encWy a)) (.agg (encWy b))=some (decide (a=b)):=by
 show some (decide (i64of a.fro=i64of b.fro) && (decide (i64of a.to=i64of b.to) && (decide (i64of a.via=i64of b.via) && true)))=_
 obtain ⟨afro,ato,avia⟩:=a
 obtain ⟨bfro,bto,bvia⟩:=b
 congr 1
 rw [Bool.eq_iff_iff]
 simp [i64of_eq,and_assoc]
theorem eq_Pr (a b:Pr):eqA tyT 6 96 (.agg (encPr a)) (.agg (encPr b))=some (decide (a=b)):=by
 show some (decide (i64of a.a=i64of b.a) && (decide (i64of a.b=i64of b.b) && true))=_
 obtain ⟨aa,ab⟩:=a
 obtain ⟨ba,bb⟩:=b
 congr 1
 rw [Bool.eq_iff_iff]
 simp [i64of_eq,and_assoc]
theorem eq_Rl (a b:Rl):eqA tyT 6 116 (.agg (encRl a)) (.agg (encRl b))=some (decide (a=b)):=by
 show some (decide (i64of a.prio=i64of b.prio) && (((decide (a.mat.value.hi=b.mat.value.hi) && (decide (a.mat.value.lo=b.mat.value.lo) && true)) && ((decide (a.mat.care.hi=b.mat.care.hi) && (decide (a.mat.care.lo=b.mat.care.lo) && true)) && true)) && ((decide (i64of a.act.kind=i64of b.act.kind) && (decide (i64of a.act.port=i64of b.act.port) && (decide (i64of a.act.table=i64of b.act.table) && (((decide (a.act.set.value.hi=b.act.set.value.hi) && (decide (a.act.set.value.lo=b.act.set.value.lo) && true)) && ((decide (a.act.set.care.hi=b.act.set.care.hi) && (decide (a.act.set.care.lo=b.act.set.care.lo) && true)) && true)) && true)))) && true)))=_
 obtain ⟨aprio,⟨⟨amatvaluehi,amatvaluelo⟩,⟨amatcarehi,amatcarelo⟩⟩,⟨aactkind,aactport,aacttable,⟨⟨aactsetvaluehi,aactsetvaluelo⟩,⟨aactsetcarehi,aactsetcarelo⟩⟩⟩⟩:=a
 obtain ⟨bprio,⟨⟨bmatvaluehi,bmatvaluelo⟩,⟨bmatcarehi,bmatcarelo⟩⟩,⟨bactkind,bactport,bacttable,⟨⟨bactsetvaluehi,bactsetvaluelo⟩,⟨bactsetcarehi,bactsetcarelo⟩⟩⟩⟩:=b
 congr 1
 rw [Bool.eq_iff_iff]
 simp [i64of_eq,and_assoc]
theorem Rn.fnF {σ σ':Sto} {x:AV} {f:FuncId} {a:List AV} (e:x = .fn f a []) (h:a.all AV.pu1=true):Rn σ σ' x (.fn f a []):=by
 subst e
 exact .fn rfl rfl (fun j x x' h1 h2=>by
  rw [h1] at h2
  rw [<- Option.some.inj h2]
  exact .pu (List.all_eq_true.1 h x (List.mem_of_getElem? h1))) (fun j x x' h1=>by simp at h1)
theorem eq_len {α:Type} [DecidableEq α] {a b:List α} (h:¬a.length=b.length):decide (a=b)=false:=decide_eq_false fun e=>h (congrArg List.length e)
theorem eq_step {α:Type} [DecidableEq α] {x y:α} {a b:List α}:decide (x::a=y::b)=(decide (x=y) && decide (a=b)):=by
 rw [Bool.eq_iff_iff];simp
theorem d_Equal_Pr (a b:List (Pr)) (q:Bool) (hq:decide (a=b)=q):PDoes Tryz.prog 52 [.sl (a.map encPr),.sl (b.map encPr)] (.b q):=by
  refine PDoes.of_bodyN Tryz.func52 rfl (by kernel_rfl) rfl rfl ?_
  have la:(a.map encPr).length=a.length:=List.length_map ..
  have lb:(b.map encPr).length=b.length:=List.length_map ..
  refine jA ?_
  refine AW.cond rfl (fun h=>?_) (fun h=>?_)
  · have h:¬a.length=b.length:=by simp at h;omega
    rw [eq_len h] at hq
    refine jA ?_
    refine AW.ret (retQA ty_ok rfl rfl rfl ?_)
    exact congrArg AV.b hq
  have h:a.length=b.length:=by simp at h;omega
  refine jA ?_
  refine AW.lens 0 rfl fun hm=>?_
  rw [List.length_map] at hm
  refine AW.loopL (ι:=Nat) (fun k=>[(0,.sl (a.map encPr)),(1,.sl (b.map encPr)),(12,.i .i64 (a.map encPr).length),(13,.i .i64 (k:Nat))]) (fun _=>[]) (fun k=>k<=a.length/\decide (a.drop k=b.drop k)=q) (fun k=>a.length - k) 0 ⟨Nat.zero_le _,hq⟩ jW trivial fun k hk=>?_
  clear hq
  obtain ⟨hk,hf⟩:=hk
  refine jA ?_
  refine AW.cond rfl (fun h1=>?_) (fun h1=>?_)
  rotate_left
  · have h':¬k<a.length:=by simpa using h1
    obtain rfl:k=a.length:=by omega
    rw [List.drop_length,h,List.drop_length] at hf
    refine jA ?_
    refine jE ?_;refine jA ?_
    refine AW.ret (retQA ty_ok rfl rfl rfl ?_)
    exact congrArg AV.b hf
  have h':k<a.length:=by simpa using h1
  have h'':k<b.length:=by omega
  rw [List.drop_eq_getElem_cons h',List.drop_eq_getElem_cons h'',eq_step] at hf
  have hax:(a.map encPr)[k]?=some (encPr a[k]):=by rw [List.getElem?_map,List.getElem?_eq_getElem h'];rfl
  have hbx:(b.map encPr)[k]?=some (encPr b[k]):=by rw [List.getElem?_map,List.getElem?_eq_getElem h''];rfl
  generalize a[k]=x at hf hax
  generalize b[k]=y at hf hbx
  refine jA ?_
  refine RG.opS rfl (op_index rfl (tk rfl) rfl (tk rfl) rfl rfl hax rfl) rfl ?_
  refine wH rfl ?_
  refine RG.opS rfl (op_index rfl (tk rfl) rfl (tk rfl) rfl rfl hbx rfl) rfl ?_
  refine wH rfl ?_
  by_cases e:x=y
  · rw [decide_eq_true e,Bool.true_and] at hf
    refine RG.opS rfl (op_neG rfl ty_ok (by kernel_rfl) (by kernel_rfl) rfl rfl (eq_Pr x y) (congrArg Bool.not (decide_eq_true e))) rfl ?_
    refine wH rfl ?_;refine jA ?_;refine AW.condF rfl ?_;refine jA ?_
    exact ⟨k+1,⟨⟨h',hf⟩,by omega⟩,⟨rI rfl rfl,rI rfl rfl,rI rfl rfl,rI (i64_next h' hm) rfl,trivial⟩,trivial⟩
  · rw [decide_eq_false e] at hf
    refine RG.opS rfl (op_neG rfl ty_ok (by kernel_rfl) (by kernel_rfl) rfl rfl (eq_Pr x y) (congrArg Bool.not (decide_eq_false e))) rfl ?_
    refine wH rfl ?_;refine jA ?_;refine AW.condT rfl ?_;refine jA ?_
    refine AW.ret (retQA ty_ok rfl rfl rfl ?_)
    exact congrArg AV.b hf
theorem d_Equal_Wy (a b:List (Wy)) (q:Bool) (hq:decide (a=b)=q):PDoes Tryz.prog 53 [.sl (a.map encWy),.sl (b.map encWy)] (.b q):=by
  refine PDoes.of_bodyN Tryz.func53 rfl (by kernel_rfl) rfl rfl ?_
  have la:(a.map encWy).length=a.length:=List.length_map ..
  have lb:(b.map encWy).length=b.length:=List.length_map ..
  refine jA ?_
  refine AW.cond rfl (fun h=>?_) (fun h=>?_)
  · have h:¬a.length=b.length:=by simp at h;omega
    rw [eq_len h] at hq
    refine jA ?_
    refine AW.ret (retQA ty_ok rfl rfl rfl ?_)
    exact congrArg AV.b hq
  have h:a.length=b.length:=by simp at h;omega
  refine jA ?_
  refine AW.lens 0 rfl fun hm=>?_
  rw [List.length_map] at hm
  refine AW.loopL (ι:=Nat) (fun k=>[(0,.sl (a.map encWy)),(1,.sl (b.map encWy)),(12,.i .i64 (a.map encWy).length),(13,.i .i64 (k:Nat))]) (fun _=>[]) (fun k=>k<=a.length/\decide (a.drop k=b.drop k)=q) (fun k=>a.length - k) 0 ⟨Nat.zero_le _,hq⟩ jW trivial fun k hk=>?_
  clear hq
  obtain ⟨hk,hf⟩:=hk
  refine jA ?_
  refine AW.cond rfl (fun h1=>?_) (fun h1=>?_)
  rotate_left
  · have h':¬k<a.length:=by simpa using h1
    obtain rfl:k=a.length:=by omega
    rw [List.drop_length,h,List.drop_length] at hf
    refine jA ?_
    refine jE ?_;refine jA ?_
    refine AW.ret (retQA ty_ok rfl rfl rfl ?_)
    exact congrArg AV.b hf
  have h':k<a.length:=by simpa using h1
  have h'':k<b.length:=by omega
  rw [List.drop_eq_getElem_cons h',List.drop_eq_getElem_cons h'',eq_step] at hf
  have hax:(a.map encWy)[k]?=some (encWy a[k]):=by rw [List.getElem?_map,List.getElem?_eq_getElem h'];rfl
  have hbx:(b.map encWy)[k]?=some (encWy b[k]):=by rw [List.getElem?_map,List.getElem?_eq_getElem h''];rfl
  generalize a[k]=x at hf hax
  generalize b[k]=y at hf hbx
  refine jA ?_
  refine RG.opS rfl (op_index rfl (tk rfl) rfl (tk rfl) rfl rfl hax rfl) rfl ?_
  refine wH rfl ?_
  refine RG.opS rfl (op_index rfl (tk rfl) rfl (tk rfl) rfl rfl hbx rfl) rfl ?_
  refine wH rfl ?_
  by_cases e:x=y
  · rw [decide_eq_true e,Bool.true_and] at hf
    refine RG.opS rfl (op_neG rfl ty_ok (by kernel_rfl) (by kernel_rfl) rfl rfl (eq_Wy x y) (congrArg Bool.not (decide_eq_true e))) rfl ?_
    refine wH rfl ?_;refine jA ?_;refine AW.condF rfl ?_;refine jA ?_
    exact ⟨k+1,⟨⟨h',hf⟩,by omega⟩,⟨rI rfl rfl,rI rfl rfl,rI rfl rfl,rI (i64_next h' hm) rfl,trivial⟩,trivial⟩
  · rw [decide_eq_false e] at hf
    refine RG.opS rfl (op_neG rfl ty_ok (by kernel_rfl) (by kernel_rfl) rfl rfl (eq_Wy x y) (congrArg Bool.not (decide_eq_false e))) rfl ?_
    refine wH rfl ?_;refine jA ?_;refine AW.condT rfl ?_;refine jA ?_
    refine AW.ret (retQA ty_ok rfl rfl rfl ?_)
    exact congrArg AV.b hf
theorem d_Equal_Pt (a b:List (Pt)) (q:Bool) (hq:decide (a=b)=q):PDoes Tryz.prog 82 [.sl (a.map encPt),.sl (b.map encPt)] (.b q):=by
  refine PDoes.of_bodyN Tryz.func82 rfl (by kernel_rfl) rfl rfl ?_
  have la:(a.map encPt).length=a.length:=List.length_map ..
  have lb:(b.map encPt).length=b.length:=List.length_map ..
  refine jA ?_
  refine AW.cond rfl (fun h=>?_) (fun h=>?_)
  · have h:¬a.length=b.length:=by simp at h;omega
    rw [eq_len h] at hq
    refine jA ?_
    refine AW.ret (retQA ty_ok rfl rfl rfl ?_)
    exact congrArg AV.b hq
  have h:a.length=b.length:=by simp at h;omega
  refine jA ?_
  refine AW.lens 0 rfl fun hm=>?_
  rw [List.length_map] at hm
  refine AW.loopL (ι:=Nat) (fun k=>[(0,.sl (a.map encPt)),(1,.sl (b.map encPt)),(12,.i .i64 (a.map encPt).length),(13,.i .i64 (k:Nat))]) (fun _=>[]) (fun k=>k<=a.length/\decide (a.drop k=b.drop k)=q) (fun k=>a.length - k) 0 ⟨Nat.zero_le _,hq⟩ jW trivial fun k hk=>?_
  clear hq
  obtain ⟨hk,hf⟩:=hk
  refine jA ?_
  refine AW.cond rfl (fun h1=>?_) (fun h1=>?_)
  rotate_left
  · have h':¬k<a.length:=by simpa using h1
    obtain rfl:k=a.length:=by omega
    rw [List.drop_length,h,List.drop_length] at hf
    refine jA ?_
    refine jE ?_;refine jA ?_
    refine AW.ret (retQA ty_ok rfl rfl rfl ?_)
    exact congrArg AV.b hf
  have h':k<a.length:=by simpa using h1
  have h'':k<b.length:=by omega
  rw [List.drop_eq_getElem_cons h',List.drop_eq_getElem_cons h'',eq_step] at hf
  have hax:(a.map encPt)[k]?=some (encPt a[k]):=by rw [List.getElem?_map,List.getElem?_eq_getElem h'];rfl
  have hbx:(b.map encPt)[k]?=some (encPt b[k]):=by rw [List.getElem?_map,List.getElem?_eq_getElem h''];rfl
  generalize a[k]=x at hf hax
  generalize b[k]=y at hf hbx
  refine jA ?_
  refine RG.opS rfl (op_index rfl (tk rfl) rfl (tk rfl) rfl rfl hax rfl) rfl ?_
  refine wH rfl ?_
  refine RG.opS rfl (op_index rfl (tk rfl) rfl (tk rfl) rfl rfl hbx rfl) rfl ?_
  refine wH rfl ?_
  by_cases e:x=y
  · rw [decide_eq_true e,Bool.true_and] at hf
    refine RG.opS rfl (op_neG rfl ty_ok (by kernel_rfl) (by kernel_rfl) rfl rfl (eq_Pt x y) (congrArg Bool.not (decide_eq_true e))) rfl ?_
    refine wH rfl ?_;refine jA ?_;refine AW.condF rfl ?_;refine jA ?_
    exact ⟨k+1,⟨⟨h',hf⟩,by omega⟩,⟨rI rfl rfl,rI rfl rfl,rI rfl rfl,rI (i64_next h' hm) rfl,trivial⟩,trivial⟩
  · rw [decide_eq_false e] at hf
    refine RG.opS rfl (op_neG rfl ty_ok (by kernel_rfl) (by kernel_rfl) rfl rfl (eq_Pt x y) (congrArg Bool.not (decide_eq_false e))) rfl ?_
    refine wH rfl ?_;refine jA ?_;refine AW.condT rfl ?_;refine jA ?_
    refine AW.ret (retQA ty_ok rfl rfl rfl ?_)
    exact congrArg AV.b hf
theorem d_Equal_Rl (a b:List (Rl)) (q:Bool) (hq:decide (a=b)=q):PDoes Tryz.prog 84 [.sl (a.map encRl),.sl (b.map encRl)] (.b q):=by
  refine PDoes.of_bodyN Tryz.func84 rfl (by kernel_rfl) rfl rfl ?_
  have la:(a.map encRl).length=a.length:=List.length_map ..
  have lb:(b.map encRl).length=b.length:=List.length_map ..
  refine jA ?_
  refine AW.cond rfl (fun h=>?_) (fun h=>?_)
  · have h:¬a.length=b.length:=by simp at h;omega
    rw [eq_len h] at hq
    refine jA ?_
    refine AW.ret (retQA ty_ok rfl rfl rfl ?_)
    exact congrArg AV.b hq
  have h:a.length=b.length:=by simp at h;omega
  refine jA ?_
  refine AW.lens 0 rfl fun hm=>?_
  rw [List.length_map] at hm
  refine AW.loopL (ι:=Nat) (fun k=>[(0,.sl (a.map encRl)),(1,.sl (b.map encRl)),(12,.i .i64 (a.map encRl).length),(13,.i .i64 (k:Nat))]) (fun _=>[]) (fun k=>k<=a.length/\decide (a.drop k=b.drop k)=q) (fun k=>a.length - k) 0 ⟨Nat.zero_le _,hq⟩ jW trivial fun k hk=>?_
  clear hq
  obtain ⟨hk,hf⟩:=hk
  refine jA ?_
  refine AW.cond rfl (fun h1=>?_) (fun h1=>?_)
  rotate_left
  · have h':¬k<a.length:=by simpa using h1
    obtain rfl:k=a.length:=by omega
    rw [List.drop_length,h,List.drop_length] at hf
    refine jA ?_
    refine jE ?_;refine jA ?_
    refine AW.ret (retQA ty_ok rfl rfl rfl ?_)
    exact congrArg AV.b hf
  have h':k<a.length:=by simpa using h1
  have h'':k<b.length:=by omega
  rw [List.drop_eq_getElem_cons h',List.drop_eq_getElem_cons h'',eq_step] at hf
  have hax:(a.map encRl)[k]?=some (encRl a[k]):=by rw [List.getElem?_map,List.getElem?_eq_getElem h'];rfl
  have hbx:(b.map encRl)[k]?=some (encRl b[k]):=by rw [List.getElem?_map,List.getElem?_eq_getElem h''];rfl
  generalize a[k]=x at hf hax
  generalize b[k]=y at hf hbx
  refine jA ?_
  refine RG.opS rfl (op_index rfl (tk rfl) rfl (tk rfl) rfl rfl hax rfl) rfl ?_
  refine wH rfl ?_
  refine RG.opS rfl (op_index rfl (tk rfl) rfl (tk rfl) rfl rfl hbx rfl) rfl ?_
  refine wH rfl ?_
  by_cases e:x=y
  · rw [decide_eq_true e,Bool.true_and] at hf
    refine RG.opS rfl (op_neG rfl ty_ok (by kernel_rfl) (by kernel_rfl) rfl rfl (eq_Rl x y) (congrArg Bool.not (decide_eq_true e))) rfl ?_
    refine wH rfl ?_;refine jA ?_;refine AW.condF rfl ?_;refine jA ?_
    exact ⟨k+1,⟨⟨h',hf⟩,by omega⟩,⟨rI rfl rfl,rI rfl rfl,rI rfl rfl,rI (i64_next h' hm) rfl,trivial⟩,trivial⟩
  · rw [decide_eq_false e] at hf
    refine RG.opS rfl (op_neG rfl ty_ok (by kernel_rfl) (by kernel_rfl) rfl rfl (eq_Rl x y) (congrArg Bool.not (decide_eq_false e))) rfl ?_
    refine wH rfl ?_;refine jA ?_;refine AW.condT rfl ?_;refine jA ?_
    refine AW.ret (retQA ty_ok rfl rfl rfl ?_)
    exact congrArg AV.b hf
theorem d_EqualFunc_Pts (F:Nat) (H:∀x y:List Pt,PDoes Tryz.prog F [.sl (x.map encPt),.sl (y.map encPt)] (.b (decide (x=y)))) (a b:List (List Pt)) (q:Bool) (hq:decide (a=b)=q):PDoes Tryz.prog 81 [.sl (a.map encPts),.sl (b.map encPts),.fn F [] []] (.b q):=by
  refine PDoes.of_bodyN Tryz.func81 rfl (by kernel_rfl) rfl rfl ?_
  have la:(a.map encPts).length=a.length:=List.length_map ..
  have lb:(b.map encPts).length=b.length:=List.length_map ..
  refine jA ?_
  refine AW.cond rfl (fun h=>?_) (fun h=>?_)
  · have h:¬a.length=b.length:=by simp at h;omega
    rw [eq_len h] at hq
    refine jA ?_
    refine AW.ret (retQA ty_ok rfl rfl rfl ?_)
    exact congrArg AV.b hq
  have h:a.length=b.length:=by simp at h;omega
  refine jA ?_
  refine AW.lens 0 rfl fun hm=>?_
  rw [List.length_map] at hm
  refine AW.loopL (ι:=Nat) (fun k=>[(1,.sl (b.map encPts)),(2,.fn F [] []),(15,.sl (a.map encPts)),(16,.i .i64 (a.map encPts).length),(17,.i .i64 (k:Nat))]) (fun _=>[]) (fun k=>k<=a.length/\decide (a.drop k=b.drop k)=q) (fun k=>a.length - k) 0 ⟨Nat.zero_le _,hq⟩ ⟨rI rfl rfl,Rn.fnF rfl rfl,rI rfl rfl,rI rfl rfl,rI rfl rfl,trivial⟩ trivial fun k hk=>?_
  clear hq
  obtain ⟨hk,hf⟩:=hk
  refine jA ?_
  refine AW.cond rfl (fun h1=>?_) (fun h1=>?_)
  rotate_left
  · have h':¬k<a.length:=by simpa using h1
    obtain rfl:k=a.length:=by omega
    rw [List.drop_length,h,List.drop_length] at hf
    refine jA ?_
    refine jE ?_;refine jA ?_
    refine AW.ret (retQA ty_ok rfl rfl rfl ?_)
    exact congrArg AV.b hf
  have h':k<a.length:=by simpa using h1
  have h'':k<b.length:=by omega
  rw [List.drop_eq_getElem_cons h',List.drop_eq_getElem_cons h'',eq_step] at hf
  have hax:(a.map encPts)[k]?=some (encPts a[k]):=by rw [List.getElem?_map,List.getElem?_eq_getElem h'];rfl
  have hbx:(b.map encPts)[k]?=some (encPts b[k]):=by rw [List.getElem?_map,List.getElem?_eq_getElem h''];rfl
  generalize a[k]=x at hf hax
  generalize b[k]=y at hf hbx
  refine jA ?_
  refine RG.opS rfl (op_index rfl (tk rfl) rfl (tk rfl) rfl rfl hax rfl) rfl ?_
  refine wH rfl ?_;refine jA ?_
  refine RG.opS rfl (op_index rfl (tk rfl) rfl (tk rfl) rfl rfl hbx rfl) rfl ?_
  refine wH rfl ?_;refine jA ?_
  have hx:=H x y
  cases e:decide (x=y)
  · rw [e] at hf hx
    refine RG.callS rfl rfl rfl rfl rfl hx rfl rfl ?_;refine wH rfl ?_;refine jA ?_
    refine AW.condT rfl ?_;refine jA ?_
    refine AW.ret (retQA ty_ok rfl rfl rfl ?_)
    exact congrArg AV.b hf
  · rw [e,Bool.true_and] at hf
    rw [e] at hx
    refine RG.callS rfl rfl rfl rfl rfl hx rfl rfl ?_;refine wH rfl ?_;refine jA ?_
    refine AW.condF rfl ?_;refine jA ?_
    exact ⟨k+1,⟨⟨h',hf⟩,by omega⟩,⟨rI rfl rfl,Rn.fnF rfl rfl,rI rfl rfl,rI rfl rfl,rI (i64_next h' hm) rfl,trivial⟩,trivial⟩
theorem d_EqualFunc_Rls (F:Nat) (H:∀x y:List Rl,PDoes Tryz.prog F [.sl (x.map encRl),.sl (y.map encRl)] (.b (decide (x=y)))) (a b:List (List Rl)) (q:Bool) (hq:decide (a=b)=q):PDoes Tryz.prog 83 [.sl (a.map encRls),.sl (b.map encRls),.fn F [] []] (.b q):=by
  refine PDoes.of_bodyN Tryz.func83 rfl (by kernel_rfl) rfl rfl ?_
  have la:(a.map encRls).length=a.length:=List.length_map ..
  have lb:(b.map encRls).length=b.length:=List.length_map ..
  refine jA ?_
  refine AW.cond rfl (fun h=>?_) (fun h=>?_)
  · have h:¬a.length=b.length:=by simp at h;omega
    rw [eq_len h] at hq
    refine jA ?_
    refine AW.ret (retQA ty_ok rfl rfl rfl ?_)
    exact congrArg AV.b hq
  have h:a.length=b.length:=by simp at h;omega
  refine jA ?_
  refine AW.lens 0 rfl fun hm=>?_
  rw [List.length_map] at hm
  refine AW.loopL (ι:=Nat) (fun k=>[(1,.sl (b.map encRls)),(2,.fn F [] []),(15,.sl (a.map encRls)),(16,.i .i64 (a.map encRls).length),(17,.i .i64 (k:Nat))]) (fun _=>[]) (fun k=>k<=a.length/\decide (a.drop k=b.drop k)=q) (fun k=>a.length - k) 0 ⟨Nat.zero_le _,hq⟩ ⟨rI rfl rfl,Rn.fnF rfl rfl,rI rfl rfl,rI rfl rfl,rI rfl rfl,trivial⟩ trivial fun k hk=>?_
  clear hq
  obtain ⟨hk,hf⟩:=hk
  refine jA ?_
  refine AW.cond rfl (fun h1=>?_) (fun h1=>?_)
  rotate_left
  · have h':¬k<a.length:=by simpa using h1
    obtain rfl:k=a.length:=by omega
    rw [List.drop_length,h,List.drop_length] at hf
    refine jA ?_
    refine jE ?_;refine jA ?_
    refine AW.ret (retQA ty_ok rfl rfl rfl ?_)
    exact congrArg AV.b hf
  have h':k<a.length:=by simpa using h1
  have h'':k<b.length:=by omega
  rw [List.drop_eq_getElem_cons h',List.drop_eq_getElem_cons h'',eq_step] at hf
  have hax:(a.map encRls)[k]?=some (encRls a[k]):=by rw [List.getElem?_map,List.getElem?_eq_getElem h'];rfl
  have hbx:(b.map encRls)[k]?=some (encRls b[k]):=by rw [List.getElem?_map,List.getElem?_eq_getElem h''];rfl
  generalize a[k]=x at hf hax
  generalize b[k]=y at hf hbx
  refine jA ?_
  refine RG.opS rfl (op_index rfl (tk rfl) rfl (tk rfl) rfl rfl hax rfl) rfl ?_
  refine wH rfl ?_;refine jA ?_
  refine RG.opS rfl (op_index rfl (tk rfl) rfl (tk rfl) rfl rfl hbx rfl) rfl ?_
  refine wH rfl ?_;refine jA ?_
  have hx:=H x y
  cases e:decide (x=y)
  · rw [e] at hf hx
    refine RG.callS rfl rfl rfl rfl rfl hx rfl rfl ?_;refine wH rfl ?_;refine jA ?_
    refine AW.condT rfl ?_;refine jA ?_
    refine AW.ret (retQA ty_ok rfl rfl rfl ?_)
    exact congrArg AV.b hf
  · rw [e,Bool.true_and] at hf
    rw [e] at hx
    refine RG.callS rfl rfl rfl rfl rfl hx rfl rfl ?_;refine wH rfl ?_;refine jA ?_
    refine AW.condF rfl ?_;refine jA ?_
    exact ⟨k+1,⟨⟨h',hf⟩,by omega⟩,⟨rI rfl rfl,Rn.fnF rfl rfl,rI rfl rfl,rI rfl rfl,rI (i64_next h' hm) rfl,trivial⟩,trivial⟩
theorem d_alike_Pt (a b:List (List Pt)) (q:Bool) (hq:decide (a=b)=q):PDoes Tryz.prog 51 [.sl (a.map encPts),.sl (b.map encPts)] (.b q):=by
 refine PDoes.of_bodyN Tryz.func51 rfl (by kernel_rfl) rfl rfl ?_
 refine jA ?_
 refine RG.callS rfl rfl rfl rfl rfl (d_EqualFunc_Pts 82 (fun x y=>d_Equal_Pt x y _ rfl) a b q hq) rfl rfl ?_;refine wH rfl ?_;refine jA ?_
 refine AW.ret (retQA ty_ok rfl rfl rfl ?_)
 rfl
theorem d_alike_Rl (a b:List (List Rl)) (q:Bool) (hq:decide (a=b)=q):PDoes Tryz.prog 55 [.sl (a.map encRls),.sl (b.map encRls)] (.b q):=by
 refine PDoes.of_bodyN Tryz.func55 rfl (by kernel_rfl) rfl rfl ?_
 refine jA ?_
 refine RG.callS rfl rfl rfl rfl rfl (d_EqualFunc_Rls 84 (fun x y=>d_Equal_Rl x y _ rfl) a b q hq) rfl rfl ?_;refine wH rfl ?_;refine jA ?_
 refine AW.ret (retQA ty_ok rfl rfl rfl ?_)
 rfl
theorem d_EqualFunc_Tab (F:Nat) (H:∀x y:List (List Rl),PDoes Tryz.prog F [.sl (x.map encRls),.sl (y.map encRls)] (.b (decide (x=y)))) (a b:List (List (List Rl))) (q:Bool) (hq:decide (a=b)=q):PDoes Tryz.prog 54 [.sl (a.map encTab),.sl (b.map encTab),.fn F [] []] (.b q):=by
  refine PDoes.of_bodyN Tryz.func54 rfl (by kernel_rfl) rfl rfl ?_
  have la:(a.map encTab).length=a.length:=List.length_map ..
  have lb:(b.map encTab).length=b.length:=List.length_map ..
  refine jA ?_
  refine AW.cond rfl (fun h=>?_) (fun h=>?_)
  · have h:¬a.length=b.length:=by simp at h;omega
    rw [eq_len h] at hq
    refine jA ?_
    refine AW.ret (retQA ty_ok rfl rfl rfl ?_)
    exact congrArg AV.b hq
  have h:a.length=b.length:=by simp at h;omega
  refine jA ?_
  refine AW.lens 0 rfl fun hm=>?_
  rw [List.length_map] at hm
  refine AW.loopL (ι:=Nat) (fun k=>[(1,.sl (b.map encTab)),(2,.fn F [] []),(15,.sl (a.map encTab)),(16,.i .i64 (a.map encTab).length),(17,.i .i64 (k:Nat))]) (fun _=>[]) (fun k=>k<=a.length/\decide (a.drop k=b.drop k)=q) (fun k=>a.length - k) 0 ⟨Nat.zero_le _,hq⟩ ⟨rI rfl rfl,Rn.fnF rfl rfl,rI rfl rfl,rI rfl rfl,rI rfl rfl,trivial⟩ trivial fun k hk=>?_
  clear hq
  obtain ⟨hk,hf⟩:=hk
  refine jA ?_
  refine AW.cond rfl (fun h1=>?_) (fun h1=>?_)
  rotate_left
  · have h':¬k<a.length:=by simpa using h1
    obtain rfl:k=a.length:=by omega
    rw [List.drop_length,h,List.drop_length] at hf
    refine jA ?_
    refine jE ?_;refine jA ?_
    refine AW.ret (retQA ty_ok rfl rfl rfl ?_)
    exact congrArg AV.b hf
  have h':k<a.length:=by simpa using h1
  have h'':k<b.length:=by omega
  rw [List.drop_eq_getElem_cons h',List.drop_eq_getElem_cons h'',eq_step] at hf
  have hax:(a.map encTab)[k]?=some (encTab a[k]):=by rw [List.getElem?_map,List.getElem?_eq_getElem h'];rfl
  have hbx:(b.map encTab)[k]?=some (encTab b[k]):=by rw [List.getElem?_map,List.getElem?_eq_getElem h''];rfl
  generalize a[k]=x at hf hax
  generalize b[k]=y at hf hbx
  refine jA ?_
  refine RG.opS rfl (op_index rfl (tk rfl) rfl (tk rfl) rfl rfl hax rfl) rfl ?_
  refine wH rfl ?_;refine jA ?_
  refine RG.opS rfl (op_index rfl (tk rfl) rfl (tk rfl) rfl rfl hbx rfl) rfl ?_
  refine wH rfl ?_;refine jA ?_
  have hx:=H x y
  cases e:decide (x=y)
  · rw [e] at hf hx
    refine RG.callS rfl rfl rfl rfl rfl hx rfl rfl ?_;refine wH rfl ?_;refine jA ?_
    refine AW.condT rfl ?_;refine jA ?_
    refine AW.ret (retQA ty_ok rfl rfl rfl ?_)
    exact congrArg AV.b hf
  · rw [e,Bool.true_and] at hf
    rw [e] at hx
    refine RG.callS rfl rfl rfl rfl rfl hx rfl rfl ?_;refine wH rfl ?_;refine jA ?_
    refine AW.condF rfl ?_;refine jA ?_
    exact ⟨k+1,⟨⟨h',hf⟩,by omega⟩,⟨rI rfl rfl,Rn.fnF rfl rfl,rI rfl rfl,rI rfl rfl,rI (i64_next h' hm) rfl,trivial⟩,trivial⟩
theorem d_cSame (a b:Cfg) (q:Bool) (hq:decide (a=b)=q):PDoes Tryz.prog 33 [.agg (cfgC a),.agg (cfgC b)] (.b q):=by
 refine PDoes.of_bodyN Tryz.func33 rfl (by kernel_rfl) rfl rfl ?_
 refine jB ?_;refine wF ?_;refine wH rfl ?_;refine jB ?_;refine wG ?_;refine wH rfl ?_;refine jB ?_
 refine AW.text ?_
 refine wH rfl ?_
 obtain ⟨a1,a2,a3,a4,a5⟩:=a
 obtain ⟨b1,b2,b3,b4,b5⟩:=b
 simp only [Cfg.mk.injEq] at hq
 by_cases h1:a1=b1
 rotate_left
 ·rw [decide_eq_false (fun h=>h1 h.1)] at hq
  subst hq
  refine RG.callS rfl rfl rfl rfl rfl (d_alike_Pt a1 b1 false (decide_eq_false h1)) rfl rfl ?_;refine wH rfl ?_;refine jA ?_
  refine AW.ret (retQA ty_ok rfl rfl rfl ?_)
  rfl
 refine RG.callS rfl rfl rfl rfl rfl (d_alike_Pt a1 b1 true (decide_eq_true h1)) rfl rfl ?_
 by_cases h2:a2=b2
 rotate_left
 ·rw [decide_eq_false (fun h=>h2 h.2.1)] at hq
  subst hq
  refine RG.runO ty_ok 0 [(23,.b false)] 400 rfl ⟨congrArg AV.b (decide_eq_false (fun h=>h2 ((i64of_eq a2 b2).mp h))),trivial⟩ ?_
  refine jB ?_
  refine AW.ret (retQA ty_ok rfl rfl rfl ?_)
  rfl
 refine RG.runO ty_ok 0 [(23,.b true)] 400 rfl ⟨congrArg AV.b (decide_eq_true (congrArg i64of h2)),trivial⟩ ?_
 by_cases h3:a3=b3
 rotate_left
 ·rw [decide_eq_false (fun h=>h3 h.2.2.1)] at hq
  subst hq
  refine RG.callS rfl rfl rfl rfl rfl (d_Equal_Pr a3 b3 false (decide_eq_false h3)) rfl rfl ?_;refine wH rfl ?_;refine jA ?_
  refine AW.ret (retQA ty_ok rfl rfl rfl ?_)
  rfl
 refine RG.callS rfl rfl rfl rfl rfl (d_Equal_Pr a3 b3 true (decide_eq_true h3)) rfl rfl ?_
 refine wH rfl ?_
 by_cases h4:a4=b4
 rotate_left
 ·rw [decide_eq_false (fun h=>h4 h.2.2.2.1)] at hq
  subst hq
  refine RG.callS rfl rfl rfl rfl rfl (d_Equal_Wy a4 b4 false (decide_eq_false h4)) rfl rfl ?_;refine wH rfl ?_;refine jA ?_
  refine AW.ret (retQA ty_ok rfl rfl rfl ?_)
  rfl
 refine RG.callS rfl rfl rfl rfl rfl (d_Equal_Wy a4 b4 true (decide_eq_true h4)) rfl rfl ?_
 refine wH rfl ?_
 have hq:decide (a5=b5)=q:=by rw [<- hq];exact decide_eq_decide.2 ⟨fun h=>⟨h1,h2,h3,h4,h⟩,fun h=>h.2.2.2.2⟩
 refine RG.callS rfl rfl rfl rfl rfl (d_EqualFunc_Tab 55 (fun x y=>d_alike_Rl x y _ rfl) a5 b5 q hq) rfl rfl ?_;refine wH rfl ?_;refine jA ?_
 refine AW.ret (retQA ty_ok rfl rfl rfl ?_)
 rfl
end Go.Proofs.YthgbdoofchknhaaGreatDoor.Sm
end
section
namespace Go.Proofs.YthgbdoofchknhaaGreatDoor.Sm
open Go.RowKit
theorem PDoes.mkL3 {P : Program} {f : FuncId} {x y z r : AV} (hf : ∃ fn c, P.funcs[f]? = some fn /\ fn.body = some c /\ (fn.name == "runtime.NumGoroutine") = false) (h : ∀ (W : World) (F : Nat -> Prop) (v u t : Value), PRel W F x v -> PRel W F y u -> PRel W F z t -> (∀ b, F b -> b < W.heap.size) -> LayL W F ->
  Calls P f #[v,u,t] W fun e W'=>∃v,e = .returned v/\Kp No W W'/\PRel W' (fun b=>F b\/(W.heap.size<=b/\b<W'.heap.size)) r v):PDoes P f [x,y,z] r :=
 ⟨hf,fun W F vs hl hv hF hL=>by
  match vs,hl with
  | [v,u,t],_=>exact h W F v u t (hv 0 _ _ rfl rfl) (hv 1 _ _ rfl rfl) (hv 2 _ _ rfl rfl) hF hL⟩
theorem pr_u {W:World} {F:Nat->Prop} {x:UInt64} {v:Value} (h:PRel W F (.u x) v):v = .int .u64 x.toNat:=by cases h;rfl
theorem deb_cell {W:World} (h:LayW W):W.cell? ⟨7,15,none⟩=some (.int .u8 4) :=
 h.deb.cell (g:=7) (by kernel_rfl) 15 (by decide)
theorem d_FormatUint (u:UInt64):PDoes Tryz.prog 48 [.u u,.i .i64 16] (.s (hexD u.toNat)):=by
 refine PDoes.mkL2 ⟨_,_,Tryz.func48,rfl,by kernel_rfl⟩ fun W F v t hv ht hF hL=>?_
 obtain rfl:=pr_u hv
 obtain rfl:=pr_i ht
 refine (fm_FormatUint W u (deb_cell hL.2)).mono ?_
 rintro e W' ⟨rfl,hb⟩
 exact ⟨_,rfl,kp_below hb,.s _⟩
def puV (l:List UInt8):UInt64:=match puL l with
 | .ok v=>UInt64.ofNat v
 | .range=>18446744073709551615
 | _=>0
theorem pu16_lt:∀(l:List UInt8) (m v:Nat),pu16 m l = .ok v->m<18446744073709551616->v<18446744073709551616
 | [],m,v,h,hm=>by
  have:m=v:=by simpa [pu16] using h
  omega
 | c::r,m,v,h,hm=>by
  unfold pu16 at h
  split at h
  ·split at h
   ·cases h
   ·exact pu16_lt r _ v h (by omega)
  ·cases h
set_option maxRecDepth 100000 in
theorem d_ParseUint (l:List UInt8) (hm:l.length<=281474976710656):PDoes Tryz.prog 57 [.s l,.i .i64 16,.i .i64 64] (.tup [.u (puV l),.any]):=by
 refine PDoes.mkL3 ⟨_,_,Tryz.func57,rfl,by kernel_rfl⟩ fun W F v t z hv ht hz hF hL=>?_
 obtain rfl:=pr_s hv
 obtain rfl:=pr_i ht
 obtain rfl:=pr_i hz
 have hsz:(⟨l.toArray⟩:ByteArray).size=l.length:=by show l.toArray.size=_;simp
 obtain ⟨ev,hs1,hs2⟩:=hL.2.syn
 obtain ⟨er,hr1,hr2⟩:=hL.2.rng
 have key:Calls Tryz.prog 87 #[.string ⟨l.toArray⟩,.int .i64 16,.int .i64 64] W fun e w'=>e = .returned (Lib.uintTuple 181 (puL l))/\Kp No W w':=by
  unfold puL
  by_cases h:l=[]
  ·rw [if_pos h]
   subst h
   refine (Tryz.internal_strconv_ParseUint_empty 16 64 W).mono ?_
   rintro e W' ⟨rfl,rfl⟩
   exact ⟨rfl,Kp.refl _ _⟩
  ·rw [if_neg h]
   exact pu_inner W l h hm
 have Hk:=Lib.hid key
 have Hs:=Lib.hid (And.intro hs1 hs2)
 have Hr:=Lib.hid (And.intro hr1 hr2)
 have HL:=Lib.hid hL
 clear key hs1 hs2 hr1 hr2 hL hv ht hz
 have hlt:∀g,g<layN->g<W.heap.size:=fun g hg=>hF g (HL.out.1 g hg)
 clear hF
 go_enter Tryz.func57,Tryz.ntmps57
 go_wp2_with fail
 refine Hk.out.mono ?_
 rintro e W1 ⟨rfl,hk1⟩
 have Hk1:=Lib.hid hk1
 clear hk1
 have hcell:∀g,g<layN->W1.cell? ⟨g,0,none⟩=W.cell? ⟨g,0,none⟩:=fun g hg=>cell_lay (Hk1.out.block g (hlt g hg) id) 0
 cases h:puL l with
 | ok v =>
  have hpv:puV l=UInt64.ofNat v:=by unfold puV;rw [h]
  have hv:v<18446744073709551616:=by
   unfold puL at h
   split at h
   ·cases h
   ·exact pu16_lt _ _ _ h (by decide)
  simp only [Lib.uintTuple]
  go_wp2_with fail
  go_ret2
  refine ⟨_,rfl,Hk1.out,.tup2 ?_ (.any _)⟩
  rw [hpv]
  have:=PRel.u (W:=W1) (F:=fun b=>F b\/(W.heap.size<=b/\b<W1.heap.size)) (UInt64.ofNat v)
  have e:(UInt64.ofNat v).toNat=v:=UInt64.toNat_ofNat_of_lt hv
  rw [e] at this
  exact this
 | range =>
  have hpv:puV l=18446744073709551615:=by unfold puV;rw [h]
  simp only [Lib.uintTuple]
  go_wp2_with fail
  refine (Tryz.strconv_toError_range _ _ _ _ er _ (by rw [hsz];exact hm) ((hcell _ (by decide)).trans Hr.out.1) Hr.out.2).mono ?_
  rintro e W2 ⟨N,rfl,_,_,hb⟩
  have Hk2:=Lib.hid (Hk1.out.trans (kp_below hb))
  clear hb
  go_wp2_with fail
  go_ret2
  exact ⟨_,rfl,Hk2.out,.tup2 (hpv ▸ .u 18446744073709551615) (.any _)⟩
 | _ =>
  have hpv:puV l=0:=by unfold puV;rw [h]
  simp only [Lib.uintTuple]
  go_wp2_with fail
  refine (Tryz.strconv_toError_syntax _ _ _ _ ev _ (by rw [hsz];exact hm) ((hcell _ (by decide)).trans Hs.out.1) Hs.out.2).mono ?_
  rintro e W2 ⟨N,rfl,_,_,hb⟩
  have Hk2:=Lib.hid (Hk1.out.trans (kp_below hb))
  clear hb
  go_wp2_with fail
  go_ret2
  exact ⟨_,rfl,Hk2.out,.tup2 (hpv ▸ .u 0) (.any _)⟩
theorem d_hex (l:List UInt8) (hl:l.length<=70368744177664):PDoes Tryz.prog 32 [.sl (byteEls l)] (.s (hexL l)):=by
 refine PDoes.mkL1 ⟨_,_,Tryz.func32,rfl,by kernel_rfl⟩ fun W F v hv hF hL=>?_
 refine (sc_hex W F v l (bytes_of hv) hl hF).mono ?_
 rintro e W' ⟨rfl,hb⟩
 exact ⟨_,rfl,kp_below hb,.s _⟩
theorem h16_len:∀(f u:Nat),(h16 f u).length<=f
 | 0,_=>Nat.le_refl 0
 | f+1,u=>by
  unfold h16
  split
  ·simp
  ·rw [List.length_append]
   have:=h16_len f (u / 16)
   simp only [List.length_singleton]
   omega
def wideL (u:Nat):List UInt8:=List.replicate (16 - (hexD u).length) 48++hexD u
theorem repeat_zero:∀n,Lib.repeatL [48] n=List.replicate n 48
 | 0=>rfl
 | n+1=>by rw [Lib.repeatL,repeat_zero n];rfl
theorem wideL_len (u:Nat):(wideL u).length=16:=by
 have:=h16_len 16 u
 rw [wideL,List.length_append,List.length_replicate]
 show 16 - (h16 16 u).length+(h16 16 u).length=16
 omega
theorem d_wide (u:UInt64):PDoes Tryz.prog 31 [.u u] (.s (wideL u.toNat)):=by
 refine PDoes.of_bodyN Tryz.func31 rfl (by kernel_rfl) rfl rfl ?_
 have hlen:=h16_len 16 u.toNat
 refine jA ?_
 refine RG.callS rfl rfl rfl rfl rfl (d_FormatUint u) rfl rfl ?_
 refine wH rfl ?_;(repeat first|apply wA|apply wB|apply wC|apply wE|(apply zM;·kernel_rfl)|apply wF|apply wG)
 refine RG.runO ty_ok 0 [(8,.i .i64 ((16 - (hexD u.toNat).length:Nat):Int))] 400 rfl ⟨?_,trivial⟩ ?_
 ·refine congrArg (AV.i .i64) ?_
  rw [IntKind.wrap_i64]
  show (16 - ((h16 16 u.toNat).length:Int)+9223372036854775808) % 18446744073709551616 - 9223372036854775808=((16 - (h16 16 u.toNat).length:Nat):Int)
  omega
 refine RG.callS rfl rfl rfl rfl rfl (d_Repeat [48] (16 - (hexD u.toNat).length) (by show 1*_<=_;omega) (by omega)) rfl rfl ?_
 rw [repeat_zero]
 refine wH rfl ?_
 refine RG.opS rfl (op_cat rfl rfl rfl (by have e:(hexD u.toNat).length=(h16 16 u.toNat).length:=rfl;simp only [List.length_replicate];omega)) rfl ?_
 refine wH rfl ?_;refine jA ?_
 refine AW.ret (retQA ty_ok rfl rfl rfl ?_)
 rfl
end Go.Proofs.YthgbdoofchknhaaGreatDoor.Sm
end
section
namespace Go.Proofs.YthgbdoofchknhaaGreatDoor.Sm
open Go.RowKit
theorem Rel.ref' {W:World} {F:Nat->Prop} {μ:Mu} {σ:Sto} {id ep:Nat} {k:RK} {v:Value} (h:Rel W F μ σ (.ref id ep k) v):ep<=(σ id).ep/\v.oneCell'=true/\∀bd,σ id=⟨ep,some bd⟩->∃b c,μ id=some (b,c)/\v=k.val b:=by
 cases h with
 | pure h=>cases h
 | ref _ _ _ _ he h1 h=>exact ⟨he,h1,h⟩
theorem Rel.own2 {W:World} {F:Nat->Prop} {μ:Mu} {σ:Sto} {id ep off:Nat} {v:Value} (h:Rel W F μ σ (.own id ep off) v):ep<=(σ id).ep/\v.oneCell'=true/\∀bd,σ id=⟨ep,some bd⟩->∃b c,μ id=some (b,c)/\v = .pointer (some ⟨b,off,none⟩):=by
 cases h with
 | pure h=>cases h
 | own _ _ _ _ he h1 h=>exact ⟨he,h1,h⟩
abbrev KE:=Int × List UInt8 × List UInt8
def keA (x:KE):List AV:=[.s x.2.1,.s x.2.2]
def keV (x:KE):Value:=.agg #[.string ⟨x.2.1.toArray⟩,.string ⟨x.2.2.toArray⟩]
def kEs (l:List KE):Array MapEntry:=(l.zipIdx.map fun p=>⟨.int .i64 p.1.1,keV p.1,p.2⟩).toArray
def mapK (l:List KE):Body:=.obj (.map (kEs l) l.length)
theorem kEs_push (l:List KE) (c:KE):(kEs l).push ⟨.int .i64 c.1,keV c,l.length⟩=kEs (l++[c]):=by
 simp [kEs,List.zipIdx_append]
theorem ke_rel {W:World} {F:Nat->Prop} (x:KE):PRel W F (.agg (keA x)) (keV x) :=
 .agg (keA x) [.string ⟨x.2.1.toArray⟩,.string ⟨x.2.2.toArray⟩] rfl (fun j y hj=>by
  match j,hj with
  | 0,hj=>cases hj;rfl
  | 1,hj=>cases hj;rfl) (pw_cons (.s _) (pw_cons (.s _) pw_nil))
theorem rel_ke {W:World} {F:Nat->Prop} {μ:Mu} {σ:Sto} {x:KE} {v:Value} (h:Rel W F μ σ (.agg (keA x)) v):v=keV x:=by
 obtain ⟨vs,rfl,hl,_,hr⟩:=h.agg'
 match vs,hl with
 | [v0,v1],_ =>
  have e0:=hr 0 _ _ rfl rfl
  have e1:=hr 1 _ _ rfl rfl
  rw [e0.s',e1.s']
  rfl
def lookK (n:Int):List KE->Option KE
 | []=>none
 | x::l=>if n=x.1 then some x else lookK n l
theorem findNow_k (n:Int):∀(l:List KE) (i j:Nat),∃r,Instr.findNow (.int .i64) (.int .i64 n) ((l.zipIdx i).map fun p=>(⟨.int .i64 p.1.1,keV p.1,p.2⟩:MapEntry)) j=some r/\r.map (·.2)=(lookK n l).map keV
  | [],i,j=>⟨none,rfl,rfl⟩
  | x::l,i,j=>by
    by_cases e:n=x.1
    · refine ⟨some (j,keV x),?_,?_⟩
      · simp [Instr.findNow,Instr.sameNow,e]
      · simp [lookK,e]
    · obtain ⟨r,h1,h2⟩:=findNow_k n l (i+1) (j+1)
      refine ⟨r,?_,?_⟩
      · have e':(n == x.1)=false:=by simpa using e
        simp [Instr.findNow,Instr.sameNow,e',h1]
      · simpa [lookK,e] using h2
theorem int_under:Tryz.prog.underlying 3=some (.int .i64):=by kernel_rfl
theorem find_k (W:World) (n:Int) (l:List KE):∃r,(Instr.findKey 3 (.int .i64 n) (kEs l).toList).run Tryz.prog W = .ok r W/\r.map (·.2)=(lookK n l).map keV:=by
 obtain ⟨r,h1,h2⟩:=findNow_k n l 0 0
 refine ⟨r,?_,h2⟩
 simp only [Instr.findKey,Sem.run_bind,run_underlying int_under,Result.andThen_ok,kEs,h1,Sem.run_pure]
theorem check_k (W:World) (em:Bool) (n:Int):(Instr.checkKey em 10000 3 (.int .i64 n)).run Tryz.prog W = .ok () W:=by
 show (Instr.checkKey em (9999+1) 3 (.int .i64 n)).run Tryz.prog W = .ok () W
 rw [Instr.checkKey]
 simp only [Sem.run_bind,run_underlying int_under,Result.andThen_ok]
 rfl
theorem run_getMap {P:Program} {W:World} {r:Nat} {es:Array MapEntry} {clock:Nat} (hb:W.heap[r]?=some (.map es clock)):(getObj r).run P W = .ok (.map es clock) W:=MapKept.run_getObj_map hb
theorem mapK_under:Tryz.prog.underlying 59=some (.map 3 57):=by kernel_rfl
theorem pair_zero (W:World):(zeroValue 57).run Tryz.prog W = .ok (keV (0,[],[])) W:=by kernel_rfl
section
variable {N : Nat} {o : Oper} {s : St}
theorem op_makeMapK {t id:Nat} (ho:o.op = .makeMap t none):OpLoc Tryz.prog N o s ⟨.ref id ((s.σ id).ep+1) .map,[(id,⟨(s.σ id).ep+1,some (mapK [])⟩)],[]⟩:=by
 intro s' h1 h2 h3 W F μ a hr K Q hK
 have hid:s'.σ id=s.σ id:=h3 (id,⟨(s.σ id).ep+1,some (mapK [])⟩) (by simp)
 have hrun:(execOp a.eval o).run Tryz.prog W = .ok (.value (.map (some W.heap.size))) (W.alloc (.map #[] 0)):=by
  simp only [execOp,ho,Instr.makeMap,newObj,Option.map_none,Sem.run_bind,Sem.run_pure,Result.andThen_ok,Sem.run,World.alloc]
 have hk:Kp (fun b=>(s'.σ id).body.isSome=true/\∃c,μ id=some (b,c)) W (W.alloc (.map #[] 0)):=(Kp.refl _ W).alloc _
 have hσ:up1 s'.σ id ⟨(s.σ id).ep+1,some (mapK [])⟩ id=⟨(s.σ id).ep+1,some (mapK [])⟩:=by rw [up1_eq,if_pos rfl]
 have hμ:upm μ id (some (W.heap.size,0)) id=some (W.heap.size,0):=by rw [upm_eq,if_pos rfl]
 obtain ⟨hs,hi⟩:=inv_turn hr.inv id (some (W.heap.size,0)) ((s.σ id).ep+1) (mapK []) hk (fun b c' e=>by
   have e':W.heap.size=b:=by simp only [Option.some.injEq,Prod.mk.injEq] at e;exact e.1
   subst e'
   exact ⟨by simp,.inl (Nat.le_refl _)⟩) (.inl (by rw [hid];omega)) (fun hs=>⟨W.heap.size,0,rfl,heap_alloc_new W _⟩)
 unfold Oper.wp
 rw [hrun]
 refine hK _ F _ _ (hr.put hs hi (.ref id _ .map _ ?_ rfl fun bd h=>⟨W.heap.size,0,hμ,rfl⟩)) hs
 show _<=(up1 s'.σ id ⟨(s.σ id).ep+1,some (mapK [])⟩ id).ep
 rw [hσ]
 exact Nat.le_refl _
theorem op_putK {x k v : Operand} {id ep : Nat} {l : List KE} {n : Int} {y : KE} (ho : o.op = .insert 59 x k v) (hx : s.ev x = .ref id ep .map) (hid : s.σ id = ⟨ep, some (mapK l)⟩) (hk : s.ev k = .i .i64 n) (hv : s.ev v = .agg (keA y)) (hn : y.1 = n) (hc : lookK n l = none) :
    OpLoc Tryz.prog N o s ⟨.tup [],[(id,⟨ep,some (mapK (l++[y]))⟩)],[]⟩:=by
  subst hn
  intro s' g1 g2 g3 W F μ a hr K Q hK
  have hid':s'.σ id=⟨ep,some (mapK l)⟩:=(g3 (id,⟨ep,some (mapK (l++[y]))⟩) (by simp)).trans hid
  have ex:=hr.ev x
  have ek:=hr.ev k
  have ev:=hr.ev v
  rw [g1 x (by rw [ho];simp [Op.operands]),hx] at ex
  rw [g1 k (by rw [ho];simp [Op.operands]),hk] at ek
  rw [g1 v (by rw [ho];simp [Op.operands]),hv] at ev
  obtain ⟨b,c',hm,hv⟩:=(Rel.ref' ex).2.2 _ hid'
  obtain ⟨b',c'',hm',hh⟩:=hr.inv.body _ _ _ hid'
  obtain ⟨rfl,rfl⟩:b=b'/\c'=c'':=by rw [hm] at hm';simpa using hm'
  have hkv:=ek.i'
  have hvv:=rel_ke ev
  obtain ⟨r,hf,hr2⟩:=find_k W y.1 l
  rw [hc] at hr2
  obtain rfl:r=none:=by simpa using hr2
  have hlt:b<W.heap.size:=(Array.getElem?_eq_some_iff.1 hh).1
  generalize hW:({ W with heap:=W.heap.setIfInBounds b (.map (kEs (l++[y])) (l++[y]).length) }:World)=W'
  have hpush:=kEs_push l y
  have hrun:(execOp a.eval o).run Tryz.prog W = .ok .skip W':=by
    simp only [execOp,ho,Instr.mapUpdate,Sem.run_bind,run_underlying mapK_under,Result.andThen_ok,hv,RK.val,run_getMap hh,Sem.run_pure,hkv,hvv,check_k,hf,MapKept.run_setObj_map _ hh,hpush]
    rw [<- hW,List.length_append,List.length_singleton]
  have hk:Kp (fun b=>(s'.σ id).body.isSome=true/\∃c,μ id=some (b,c)) W W':=by
    subst hW
    exact ⟨rfl,rfl,rfl,by simp,fun k hk hn=>by
      have:b≠k:=fun e=>hn ⟨by rw [hid'];rfl,c',e ▸ hm⟩
      simp only [Array.getElem?_setIfInBounds,if_neg this]⟩
  have hh':W'.heap[b]?=some (.map (kEs (l++[y])) (l++[y]).length):=by
    subst hW
    simp only [Array.getElem?_setIfInBounds,if_true,if_pos hlt]
  have hsz:W'.heap.size=W.heap.size:=by subst hW;simp
  obtain ⟨hs, hi⟩ := inv_turn hr.inv id (μ id) ep (mapK (l ++ [y])) hk (fun b1 c1 e => by
      rw [hm] at e
      obtain ⟨rfl,rfl⟩:b=b1/\c'=c1:=by simpa using e
      exact ⟨by rw [hsz];exact hlt,.inr ⟨by rw [hid'];rfl,c',hm⟩⟩)
    (.inr ⟨by rw [hid'],mapK l,by rw [hid'],rfl,rfl⟩) (fun hs=>⟨b,c',hm,hh'⟩)
  unfold Oper.wp
  rw [hrun]
  exact hK _ F _ _ (hr.put hs hi (.pure (.tup [] [] rfl (by simp)))) hs
theorem op_lookK {x k:Operand} {id ep:Nat} {l:List KE} {n:Int} (y:KE) (ho:o.op = .lookup 59 x k false) (hx:s.ev x = .ref id ep .map) (hid:s.σ id=⟨ep,some (mapK l)⟩) (hk:s.ev k = .i .i64 n) (hy:(lookK n l).getD (0,[],[])=y) :
  OpLoc Tryz.prog N o s ⟨.agg (keA y),[],[id]⟩:=by
 subst hy
 refine oploc_val [id] _ fun s' W F μ a h1 h2 hr=>⟨keV ((lookK n l).getD (0,[],[])),?_,.pure (ke_rel _)⟩
 have ex:=hr.ev x
 have ek:=hr.ev k
 rw [h1 x (by rw [ho];simp [Op.operands]),hx] at ex
 rw [h1 k (by rw [ho];simp [Op.operands]),hk] at ek
 have hid':=(h2 id (by simp)).trans hid
 obtain ⟨b,c',hm,hv⟩:=(Rel.ref' ex).2.2 _ hid'
 obtain ⟨b',c'',hm',hh⟩:=hr.inv.body _ _ _ hid'
 obtain ⟨rfl,rfl⟩:b=b'/\c'=c'':=by rw [hm] at hm';simpa using hm'
 have hkv:=ek.i'
 obtain ⟨r,hf,hr2⟩:=find_k W n l
 cases hl:lookK n l with
 | none =>
  rw [hl] at hr2
  obtain rfl:r=none:=by simpa using hr2
  simp only [execOp,ho,Instr.lookup,Sem.run_bind,run_underlying mapK_under,Result.andThen_ok,hv,RK.val,run_getMap hh,Sem.run_pure,hkv,check_k,hf,pair_zero]
  rfl
 | some z =>
  rw [hl] at hr2
  obtain ⟨⟨j,vz⟩,rfl⟩:∃p,r=some p:=by cases r with | none=>simp at hr2 | some p=>exact ⟨p,rfl⟩
  obtain rfl:vz=keV z:=by simpa using hr2
  simp only [execOp,ho,Instr.lookup,Sem.run_bind,run_underlying mapK_under,Result.andThen_ok,hv,RK.val,run_getMap hh,Sem.run_pure,hkv,check_k,hf]
  rfl
theorem op_lookK2 {x k:Operand} {id ep:Nat} {l:List KE} {n:Int} (y:KE) (q:Bool) (ho:o.op = .lookup 59 x k true) (hx:s.ev x = .ref id ep .map) (hid:s.σ id=⟨ep,some (mapK l)⟩) (hk:s.ev k = .i .i64 n) (hy:(lookK n l).getD (0,[],[])=y) (hq:(lookK n l).isSome=q) :
  OpLoc Tryz.prog N o s ⟨.tup [.agg (keA y),.b q],[],[id]⟩:=by
 subst hy hq
 refine oploc_val [id] _ fun s' W F μ a h1 h2 hr=>⟨.tuple #[keV ((lookK n l).getD (0,[],[])),.bool (lookK n l).isSome],?_,.tup _ [_,_] rfl (pw_cons (.pure (ke_rel _)) (pw_cons (.pure (.b _)) pw_nil))⟩
 have ex:=hr.ev x
 have ek:=hr.ev k
 rw [h1 x (by rw [ho];simp [Op.operands]),hx] at ex
 rw [h1 k (by rw [ho];simp [Op.operands]),hk] at ek
 have hid':=(h2 id (by simp)).trans hid
 obtain ⟨b,c',hm,hv⟩:=(Rel.ref' ex).2.2 _ hid'
 obtain ⟨b',c'',hm',hh⟩:=hr.inv.body _ _ _ hid'
 obtain ⟨rfl,rfl⟩:b=b'/\c'=c'':=by rw [hm] at hm';simpa using hm'
 have hkv:=ek.i'
 obtain ⟨r,hf,hr2⟩:=find_k W n l
 cases hl:lookK n l with
 | none =>
  rw [hl] at hr2
  obtain rfl:r=none:=by simpa using hr2
  simp only [execOp,ho,Instr.lookup,Sem.run_bind,run_underlying mapK_under,Result.andThen_ok,hv,RK.val,run_getMap hh,Sem.run_pure,hkv,check_k,hf,pair_zero]
  rfl
 | some z =>
  rw [hl] at hr2
  obtain ⟨⟨j,vz⟩,rfl⟩:∃p,r=some p:=by cases r with | none=>simp at hr2 | some p=>exact ⟨p,rfl⟩
  obtain rfl:vz=keV z:=by simpa using hr2
  simp only [execOp,ho,Instr.lookup,Sem.run_bind,run_underlying mapK_under,Result.andThen_ok,hv,RK.val,run_getMap hh,Sem.run_pure,hkv,check_k,hf]
  rfl
theorem op_newObj {id:Nat} {P:Program} (x:Obj) (rd:List Nat) (h:∀(s':St) W F μ a,(∀y∈o.op.operands.toList,s'.ev y=s.ev y)->(∀i∈rd,s'.σ i=s.σ i)->RS N W F μ s' a->(execOp a.eval o).run P W = .ok (.value (.pointer (some ⟨W.heap.size,0,none⟩))) (W.alloc x)) :
  OpLoc P N o s ⟨.own id ((s.σ id).ep+1) 0,[(id,⟨(s.σ id).ep+1,some (.obj x)⟩)],rd⟩:=by
 intro s' h1 h2 h3 W F μ a hr K Q hK
 have hid:s'.σ id=s.σ id:=h3 (id,⟨(s.σ id).ep+1,some (.obj x)⟩) (by simp)
 have hrun:=h s' W F μ a h1 h2 hr
 have hk:Kp (fun b=>(s'.σ id).body.isSome=true/\∃c,μ id=some (b,c)) W (W.alloc x):=(Kp.refl _ W).alloc _
 have hσ:up1 s'.σ id ⟨(s.σ id).ep+1,some (.obj x)⟩ id=⟨(s.σ id).ep+1,some (.obj x)⟩:=by rw [up1_eq,if_pos rfl]
 have hμ:upm μ id (some (W.heap.size,0)) id=some (W.heap.size,0):=by rw [upm_eq,if_pos rfl]
 obtain ⟨hs,hi⟩:=inv_turn hr.inv id (some (W.heap.size,0)) ((s.σ id).ep+1) (.obj x) hk (fun b c' e=>by
   have e':W.heap.size=b:=by simp only [Option.some.injEq,Prod.mk.injEq] at e;exact e.1
   subst e'
   exact ⟨by simp,.inl (Nat.le_refl _)⟩) (.inl (by rw [hid];omega)) (fun hs=>⟨W.heap.size,0,rfl,heap_alloc_new W _⟩)
 unfold Oper.wp
 rw [hrun]
 refine hK _ F _ _ (hr.put hs hi (.own id _ 0 _ ?_ rfl fun bd h=>⟨W.heap.size,0,hμ,rfl⟩)) hs
 show _<=(up1 s'.σ id ⟨(s.σ id).ep+1,some (.obj x)⟩ id).ep
 rw [hσ]
 exact Nat.le_refl _
theorem op_rangeS {x:Operand} {t id:Nat} {l:List UInt8} {P:Program} (ho:o.op = .range t x) (ht:P.underlying t=some .string) (hx:s.ev x = .s l) :
  OpLoc P N o s ⟨.own id ((s.σ id).ep+1) 0,[(id,⟨(s.σ id).ep+1,some (.obj (.stringIter ⟨l.toArray⟩ 0))⟩)],[]⟩:=by
 refine op_newObj _ [] fun s' W F μ a h1 h2 hr=>?_
 have ex:=hr.ev x
 rw [h1 x (by rw [ho];simp [Op.operands]),hx] at ex
 simp only [execOp,ho,ex.s',Sem.run_bind,run_range_string _ _ _ ht,Result.andThen_ok,Sem.run_pure]
 rfl
theorem obj_write {P : Program} {s' : St} {W : World} {F : Nat -> Prop} {μ : Mu} {a : Act} {id ep b c : Nat} {x y : Obj} (hr : RS N W F μ s' a) (hid : s'.σ id = ⟨ep, some (.obj x)⟩) (hm : μ id = some (b, c)) (hh : W.heap[b]? = some x) {W1 W' : World} (h1 : W1 = W \/ W1 = W.drew) (hW : W' = { W1 with heap := W1.heap.setIfInBounds b y }) :
    Stp W F μ s'.σ W' F (upm μ id (μ id)) (up1 s'.σ id ⟨ep,some (.obj y)⟩)/\Inv W' F (upm μ id (μ id)) (up1 s'.σ id ⟨ep,some (.obj y)⟩):=by
  have hlt:b<W.heap.size:=(Array.getElem?_eq_some_iff.1 hh).1
  have e1:W1.heap=W.heap:=by rcases h1 with rfl | rfl <;> rfl
  have hsz:W'.heap.size=W.heap.size:=by subst hW;simp [e1]
  refine inv_turn hr.inv id (μ id) ep (.obj y) ?_ (fun b1 c1 e => by
      rw [hm] at e
      obtain ⟨rfl,rfl⟩:b=b1/\c=c1:=by simpa using e
      exact ⟨by rw [hsz];exact hlt,.inr ⟨by rw [hid];rfl,c,hm⟩⟩)
    (.inr ⟨by rw [hid],.obj x,by rw [hid],rfl,rfl⟩) (fun hs=>⟨b,c,hm,?_⟩)
  · have e2:W'.os=W.os:=by subst hW;rcases h1 with rfl | rfl <;> rfl
    have e3:W'.tape=W.tape:=by subst hW;rcases h1 with rfl | rfl <;> rfl
    have e4:W'.output=W.output:=by subst hW;rcases h1 with rfl | rfl <;> rfl
    refine ⟨e2,e3,e4,by omega,fun k hk hn=>?_⟩
    have:b≠k:=fun e=>hn ⟨by rw [hid];rfl,c,e ▸ hm⟩
    subst hW
    simp only [Array.getElem?_setIfInBounds,if_neg this,e1]
  · subst hW
    simp only [Array.getElem?_setIfInBounds,if_true,e1,if_pos hlt]
theorem op_nextS {x:Operand} {id ep:Nat} {l:List UInt8} {p w r:Nat} {P:Program} (ho:o.op = .next x true) (hx:s.ev x = .own id ep 0) (hid:s.σ id=⟨ep,some (.obj (.stringIter ⟨l.toArray⟩ p))⟩) (hp:p<l.length) (hd:Utf8.decode ⟨l.toArray⟩ p=(r,w)) :
  OpLoc P N o s ⟨.tup [.b true,.i .i64 p,.i .i32 r],[(id,⟨ep,some (.obj (.stringIter ⟨l.toArray⟩ (p+w)))⟩)],[]⟩:=by
 intro s' h1 h2 h3 W F μ a hr K Q hK
 have hid':s'.σ id=_:=(h3 (id,⟨ep,some (.obj (.stringIter ⟨l.toArray⟩ (p+w)))⟩) (by simp)).trans hid
 have ex:=hr.ev x
 rw [h1 x (by rw [ho];simp [Op.operands]),hx] at ex
 obtain ⟨b,c',hm,hv⟩:=(Rel.own2 ex).2.2 _ hid'
 obtain ⟨b',c'',hm',hh⟩:=hr.inv.body _ _ _ hid'
 obtain ⟨rfl,rfl⟩:b=b'/\c'=c'':=by rw [hm] at hm';simpa using hm'
 have hrun:(execOp a.eval o).run P W = .ok (.value (.tuple #[.bool true,.int .i64 p,.int .i32 r])) (W.iterAt b ⟨l.toArray⟩ (p+w)):=by
  have:=Lib.run_next_any_at (P:=P) W b ⟨l.toArray⟩ p o.type hh (by show p<l.toArray.size;simpa using hp)
  rw [hd] at this
  simp only [execOp,ho,hv,Sem.run_bind,this,Result.andThen_ok,Sem.run_pure]
 obtain ⟨hs,hi⟩:=obj_write (P:=P) hr hid' hm hh (.inl rfl) (W':=W.iterAt b ⟨l.toArray⟩ (p+w)) rfl
 unfold Oper.wp
 rw [hrun]
 exact hK _ F _ _ (hr.put hs hi (.pure (.tup _ [_,_,_] rfl (pw_cons (.b _) (pw_cons (.i _ _) (pw_cons (.i _ _) pw_nil)))))) hs
theorem op_nextSe {x:Operand} {id ep:Nat} {l:List UInt8} {p:Nat} {P:Program} (ho:o.op = .next x true) (hx:s.ev x = .own id ep 0) (hid:s.σ id=⟨ep,some (.obj (.stringIter ⟨l.toArray⟩ p))⟩) (hp:¬p<l.length) :
  OpLoc P N o s ⟨.tup [.b false],[],[id]⟩:=by
 refine oploc_val [id] _ fun s' W F μ a h1 h2 hr=>⟨.tuple #[.bool false],?_,.pure (.tup _ [_] rfl (pw_cons (.b _) pw_nil))⟩
 have ex:=hr.ev x
 rw [h1 x (by rw [ho];simp [Op.operands]),hx] at ex
 have hid':=(h2 id (by simp)).trans hid
 obtain ⟨b,c',hm,hv⟩:=(Rel.own2 ex).2.2 _ hid'
 obtain ⟨b',c'',hm',hh⟩:=hr.inv.body _ _ _ hid'
 obtain ⟨rfl,rfl⟩:b=b'/\c'=c'':=by rw [hm] at hm';simpa using hm'
 have:=Lib.run_next_end_at (P:=P) W b ⟨l.toArray⟩ p o.type hh (by show ¬p<l.toArray.size;simpa using hp)
 simp only [execOp,ho,hv,Sem.run_bind,this,Result.andThen_ok,Sem.run_pure]
theorem op_entryM {x:Operand} {id ep idm epm g eg bm c since clock:Nat} {es:Array MapEntry} {seen:Array Nat} {e:MapEntry} {k v:AV} {P:Program} (ho:o.op = .entry x) (hx:s.ev x = .own id ep 0) (hid:s.σ id=⟨ep,some (.obj (.mapIter (some bm) since (seen.push e.born) clock))⟩)
  (hidm:s.σ idm=⟨epm,some (.obj (.map es clock))⟩) (hg:s.σ g=⟨eg,some (.ghost idm epm (some (bm,c)))⟩) (he:e∈es.toList) (hn:(es.toList.map (·.born)).Nodup) (hk:∀W F,PRel W F k e.key) (hv:∀W F,PRel W F v e.val) :
  OpLoc P N o s ⟨.tup [k,v],[],[id,idm,g]⟩:=by
 refine oploc_val [id,idm,g] _ fun s' W F μ a h1 h2 hr=>⟨.tuple #[e.key,e.val],?_,.pure (.tup _ [_,_] rfl (pw_cons (hk _ _) (pw_cons (hv _ _) pw_nil)))⟩
 have ex:=hr.ev x
 rw [h1 x (by rw [ho];simp [Op.operands]),hx] at ex
 have hid':=(h2 id (by simp)).trans hid
 have hidm':=(h2 idm (by simp)).trans hidm
 have hg':=(h2 g (by simp)).trans hg
 obtain ⟨b,c',hm,hv⟩:=(Rel.own2 ex).2.2 _ hid'
 obtain ⟨b',c'',hm',hh⟩:=hr.inv.body _ _ _ hid'
 obtain ⟨rfl,rfl⟩:b=b'/\c'=c'':=by rw [hm] at hm';simpa using hm'
 obtain ⟨b2,c2,hm2,hh2⟩:=hr.inv.body _ _ _ hidm'
 have hq:=(hr.inv.body _ _ _ hg').2.2 _ hidm'
 obtain ⟨rfl,rfl⟩:b2=bm/\c2=c:=by rw [hm2] at hq;simpa using hq
 have hf:es.find? (·.born == e.born)=some e:=by rw [<- Array.find?_toList];exact find_born e es.toList hn he
 simp only [execOp,ho,hv,Instr.entry,getObj,Sem.run_bind,Sem.run,hh,hh2,Result.andThen,Array.back?_push,bne_self_eq_false,Bool.false_eq_true,if_false,hf]
 rfl
end
theorem run_next_mapA {P : Program} (w : World) (ty : TypeId) (r bm since c0 : Nat) (seen : Array Nat) (es : Array MapEntry) (clock : Nat) (hi : w.heap[r]? = some (.mapIter (some bm) since seen c0)) (hb : w.heap[bm]? = some (.map es clock)) (hold : ∀ x ∈ es.toList, x.born < since) (hsc : since <= c0) :
    ((leftOf es seen).size=0/\(Instr.next (.pointer (some ⟨r,0,none⟩)) false ty).run P w = .ok (.tuple #[.bool false]) w) \/
    ∃e∈(leftOf es seen).toList,∃w1:World,(w1=w\/w1=w.drew)/\(Instr.next (.pointer (some ⟨r,0,none⟩)) false ty).run P w = .ok (.tuple #[.bool true,e.key,e.val]) { w1 with heap:=w1.heap.setIfInBounds r (.mapIter (some bm) since (seen.push e.born) clock) }:=by
  simp only [Instr.next,getObj,Sem.run_bind,Sem.run,hi,hb,Result.andThen,next_test_false seen es since c0 hold hsc,Bool.false_eq_true,if_false]
  unfold leftOf
  have hmem:∀x∈(Array.filter (fun e=>!seen.contains e.born) es).toList,x.born<since:=fun x hx=>hold x (by simp at hx ⊢;exact hx.1)
  generalize Array.filter (fun e=>!seen.contains e.born) es=L at hmem ⊢
  have e1:L.filter (fun x=>decide (x.born<since))=L:=Array.filter_eq_self.2 (fun x hx=>by simpa using hmem x (by simpa using hx))
  have e2:L.filter (fun x=>decide (x.born>=since)) = #[]:=by
    rw [Array.filter_eq_empty_iff]
    intro x hx
    have:=hmem x (by simpa using hx)
    simp
    omega
  simp only [e1,e2,Array.append_empty]
  by_cases h0:L.size=0
  · left
    have:L = #[]:=Array.eq_empty_of_size_eq_zero h0
    subst this
    refine ⟨rfl,?_⟩
    simp [choose,Sem.run,Question.forced]
  · right
    have hne:L.isEmpty=false:=by simp [Array.isEmpty,h0]
    simp only [hne,Bool.false_eq_true,if_false,Array.empty_append,Array.size_map]
    have hch:∃(j:Nat) (w1:World),j<L.size/\(w1=w\/w1=w.drew)/\(choose (Question.mapNext L.size)).run P w = .ok j w1:=by
      by_cases hf:L.size<=1
      · exact ⟨0,w,by omega,.inl rfl,by simp [choose,Sem.run,Question.forced,hf]⟩
      · exact ⟨_, w.drew, Nat.mod_lt _ (by omega), .inr rfl, by
          simp only [choose,Sem.run,Question.forced,decide_eq_true_eq,hf,if_false,Question.cut]
          rfl⟩
    obtain ⟨j,w1,hj,hal,hrun⟩:=hch
    refine ⟨L[j],by simp,w1,hal,?_⟩
    have hw1:w1.heap[r]?=some (.mapIter (some bm) since seen c0):=by rcases hal with rfl | rfl <;> exact hi
    have hset:∀(o':Obj),(setObj r o').run P w1 = .ok () ({ w1 with heap:=w1.heap.setIfInBounds r o' }:World):=fun o'=>by
      simp only [setObj,Sem.run]
      rw [hw1]
    simp only [hrun,Array.getElem?_map,Array.getElem?_eq_getElem hj,Option.map_some,Sem.run_bind,hset,Result.andThen]
    rfl
section
variable {P : Program} {N : Nat} {Q : Exit -> St -> Prop} {s : St}
theorem AW.firstN {id:Nat} {ops:Array Oper} {o:Oper} {rest:List Oper} (hops:ops.toList=o::rest) (hg:gd ops s o=some true) (hv:isVal o=false) (J:Eff->Prop)
  (h:∀W F μ a,RS N W F μ s a->∀(K:Act->World->Prop) (R:Exit->Act->World->Prop),(∀E,J E->∀W' F' μ' a',RS N W' F' μ' (E.ap N o.dst s) a'->Stp W F μ s.σ W' F' μ' (ups s.σ E.up)->K a' W')->o.wp P a W K R)
  (hc:∀E,J E->RG P N ops rest (E.ap N o.dst s) fun s' _=>Q .normal s'):AW P N (.region id ops false) Q s:=by
 intro W F μ a hr ro hn
 refine wpIn_region_list ?_
 rw [hops]
 unfold wpListIn
 rw [if_pos (gd_wanted hr hg)]
 refine op_in hr (gd_0 hg).2 (.inl hv) (h W F μ a hr _ _ fun E hE W' F' μ' a' hr' hs hd=>?_)
 obtain ⟨Es,s',hch,hq⟩:=hc E hE
 exact chain_list hch W' F' μ' a' hr' ro _ fun W'' F'' μ'' a'' hr'' hs' hd'=>⟨F'',μ'',s',hq,hr'',(hs.trans hs').q.d (hd'.trans hd)⟩
theorem AW.nextM {rid:Nat} {ops:Array Oper} {o:Oper} {rest:List Oper} {x:Operand} {id ep idm epm g eg bm c since c0 clock d:Nat} {es:Array MapEntry} {seen:Array Nat}
  (hops:ops.toList=o::rest) (hg:gd ops s o=some true) (hv:isVal o=false) (ho:o.op = .next x false) (hdst:o.dst=some d) (hx:s.ev x = .own id ep 0) (hid:s.σ id=⟨ep,some (.obj (.mapIter (some bm) since seen c0))⟩)
  (hidm:s.σ idm=⟨epm,some (.obj (.map es clock))⟩) (hgh:s.σ g=⟨eg,some (.ghost idm epm (some (bm,c)))⟩) (hold:∀x∈es.toList,x.born<since) (hsc:since<=c0)
  (h0:(leftOf es seen).size=0->RG P N ops rest ⟨putS N s.ts (some d) (.tup [.b false]),s.σ⟩ fun s' _=>Q .normal s')
  (h1:∀e∈(leftOf es seen).toList,RG P N ops rest ⟨putS N s.ts (some d) (.tup [.b true,.any,.any]),up1 s.σ id ⟨ep,some (.obj (.mapIter (some bm) since (seen.push e.born) clock))⟩⟩ fun s' _=>Q .normal s') :
  AW P N (.region rid ops false) Q s:=by
 refine AW.firstN hops hg hv (fun E=>(E=⟨.tup [.b false],[],[]⟩/\(leftOf es seen).size=0)\/∃e∈(leftOf es seen).toList,E=⟨.tup [.b true,.any,.any],[(id,⟨ep,some (.obj (.mapIter (some bm) since (seen.push e.born) clock))⟩)],[]⟩) ?_ ?_
 ·intro W F μ a hr K R hK
  have ex:=hr.ev x
  rw [hx] at ex
  obtain ⟨b,c',hm,hvv⟩:=(Rel.own2 ex).2.2 _ hid
  obtain ⟨b',c'',hm',hh⟩:=hr.inv.body _ _ _ hid
  obtain ⟨rfl,rfl⟩:b=b'/\c'=c'':=by rw [hm] at hm';simpa using hm'
  obtain ⟨b2,c2,hm2,hh2⟩:=hr.inv.body _ _ _ hidm
  have hq:=(hr.inv.body _ _ _ hgh).2.2 _ hidm
  obtain ⟨rfl,rfl⟩:b2=bm/\c2=c:=by rw [hm2] at hq;simpa using hq
  rcases run_next_mapA (P:=P) W o.type b b2 since c0 seen es clock hh hh2 hold hsc with ⟨h3,h4⟩ | ⟨e,he,w1,hw1,h4⟩
  ·have hrun:(execOp a.eval o).run P W = .ok (.value (.tuple #[.bool false])) W:=by
    simp only [execOp,ho,hvv,Sem.run_bind,h4,Result.andThen_ok,Sem.run_pure]
   unfold Oper.wp
   rw [hrun]
   exact hK ⟨.tup [.b false],[],[]⟩ (.inl ⟨rfl,h3⟩) W F μ _ (hr.put (Stp.refl _ _ _ _) hr.inv (.pure (.tup _ [_] rfl (pw_cons (.b _) pw_nil)))) (Stp.refl _ _ _ _)
  ·have hrun:(execOp a.eval o).run P W = .ok (.value (.tuple #[.bool true,e.key,e.val])) ({ w1 with heap:=w1.heap.setIfInBounds b (.mapIter (some b2) since (seen.push e.born) clock) }:World):=by
    simp only [execOp,ho,hvv,Sem.run_bind,h4,Result.andThen_ok,Sem.run_pure]
   obtain ⟨hs,hi⟩:=obj_write (P:=P) (y:=.mapIter (some b2) since (seen.push e.born) clock) hr hid hm hh hw1 rfl
   unfold Oper.wp
   rw [hrun]
   exact hK ⟨.tup [.b true,.any,.any],[(id,⟨ep,some (.obj (.mapIter (some b2) since (seen.push e.born) clock))⟩)],[]⟩ (.inr ⟨e,he,rfl⟩) _ F _ _ (hr.put hs hi (.tup _ [_,_,_] rfl (pw_cons (.pure (.b _)) (pw_cons (.any _) (pw_cons (.any _) pw_nil))))) hs
 ·rintro E (⟨rfl,h3⟩ | ⟨e,he,rfl⟩)
  ·rw [Eff.ap,hdst]
   exact h0 h3
  ·rw [Eff.ap,hdst]
   exact h1 e he
theorem chain_cont {ops:Array Oper} {l:List Oper} {s s':St} {Es:List Eff} (h:Chain P N ops l s Es s') :
  ∀(W:World) F μ a,RS N W F μ s a->∀(ro:Option Nat) (rest:List Oper) (Q:Exit->Act->World->Prop),(∀W' F' μ' a',RS N W' F' μ' s' a'->Stp W F μ s.σ W' F' μ' s'.σ->a'.defers=a.defers->wpListIn (wideR ro) 0 P ops Q rest a' W')->wpListIn (wideR ro) 0 P ops Q (l++rest) a W:=by
 induction h with
 | nil s=>exact fun W F μ a hr ro rest Q hq=>hq W F μ a hr (Stp.refl _ _ _ _) rfl
 | op hg hb h _ ih =>
  intro W F μ a hr ro rest Q hq
  rw [List.cons_append]
  unfold wpListIn
  rw [if_pos (gd_wanted hr hg)]
  exact op_in hr (gd_0 hg).2 hb (h.ok W F μ a hr _ _ fun W' F' μ' a' hr' hs hd=>ih W' F' μ' a' hr' ro rest Q fun W'' F'' μ'' a'' hr'' hs' hd'=>hq W'' F'' μ'' a'' hr'' (hs.trans hs') (hd'.trans hd))
 | skip hg _ ih =>
  intro W F μ a hr ro rest Q hq
  rw [List.cons_append]
  unfold wpListIn
  rw [if_neg (by rw [gd_wanted hr hg];simp)]
  exact ⟨fun _ _=>trivial,ih W F μ _ (hr.skip _) ro rest Q fun W' F' μ' a' h1 h2 h3=>hq W' F' μ' a' h1 h2 (h3.trans (defers_put _ _ _))⟩
theorem AW.rangeM (n:Nat) {rid:Nat} {ops:Array Oper} {o:Oper} {rest:List Oper} {x:Operand} {t k e idm ep clock:Nat} {es:Array MapEntry} (id g:Nat) (hne:g≠idm) (hne':id≠idm) (hne'':g≠id)
  (hd:ops.toList.drop n=o::rest) (hv:isVal o=false) (ho:o.op = .range t x) (ht:P.underlying t=some (.map k e))
  (hpre:RG P N ops (ops.toList.take n) s fun s1 _=>gd ops s1 o=some true/\s1.ev x = .ref idm ep .map/\s1.σ idm=⟨ep,some (.obj (.map es clock))⟩ /\
   ∀bm c,RG P N ops rest ⟨putS N s1.ts o.dst (.own id ((s1.σ id).ep+1) 0),ups s1.σ [(id,⟨(s1.σ id).ep+1,some (.obj (.mapIter (some bm) clock #[] clock))⟩),(g,⟨(s1.σ g).ep+1,some (.ghost idm ep (some (bm,c)))⟩)]⟩ fun s' _=>Q .normal s') :
  AW P N (.region rid ops false) Q s:=by
 intro W F μ a hr ro hn
 obtain ⟨Es,s1,hch,hg,hx,hid,hc⟩:=hpre
 refine wpIn_region_list ?_
 rw [<- List.take_append_drop n ops.toList,hd]
 refine chain_cont hch W F μ a hr ro _ _ fun W1 F1 μ1 a1 hr1 hs1 hd1=>?_
 unfold wpListIn
 rw [if_pos (gd_wanted hr1 hg)]
 have ex:=hr1.ev x
 rw [hx] at ex
 obtain ⟨bm,c,hm,hvv⟩:=(Rel.ref' ex).2.2 _ hid
 obtain ⟨b',c'',hm',hh⟩:=hr1.inv.body _ _ _ hid
 obtain ⟨rfl,rfl⟩:bm=b'/\c=c'':=by rw [hm] at hm';simpa using hm'
 refine op_in hr1 (gd_0 hg).2 (.inl hv) ?_
 have hrun:(execOp a1.eval o).run P W1 = .ok (.value (.pointer (some ⟨W1.heap.size,0,none⟩))) (W1.alloc (.mapIter (some bm) clock #[] clock)):=by
  simp only [execOp,ho,hvv,RK.val,Sem.run_bind,run_range_map _ _ _ _ _ _ _ ht hh,Result.andThen_ok,Sem.run_pure]
 unfold Oper.wp
 rw [hrun]
 have hk:Kp (fun b=>(s1.σ id).body.isSome=true/\∃c,μ1 id=some (b,c)) W1 (W1.alloc (.mapIter (some bm) clock #[] clock)):=(Kp.refl _ W1).alloc _
 have hσ:up1 s1.σ id ⟨(s1.σ id).ep+1,some (.obj (.mapIter (some bm) clock #[] clock))⟩ id=⟨(s1.σ id).ep+1,some (.obj (.mapIter (some bm) clock #[] clock))⟩:=by rw [up1_eq,if_pos rfl]
 have hμ:upm μ1 id (some (W1.heap.size,0)) id=some (W1.heap.size,0):=by rw [upm_eq,if_pos rfl]
 obtain ⟨hs,hi⟩:=inv_turn hr1.inv id (some (W1.heap.size,0)) ((s1.σ id).ep+1) (.obj (.mapIter (some bm) clock #[] clock)) hk (fun b c' e=>by
   have e':W1.heap.size=b:=by simp only [Option.some.injEq,Prod.mk.injEq] at e;exact e.1
   subst e'
   exact ⟨by simp,.inl (Nat.le_refl _)⟩) (.inl (by omega)) (fun hs=>⟨W1.heap.size,0,rfl,heap_alloc_new W1 _⟩)
 have eg:up1 s1.σ id ⟨(s1.σ id).ep+1,some (.obj (.mapIter (some bm) clock #[] clock))⟩ g=s1.σ g:=by rw [up1_eq,if_neg hne'']
 have em:up1 s1.σ id ⟨(s1.σ id).ep+1,some (.obj (.mapIter (some bm) clock #[] clock))⟩ idm=s1.σ idm:=by rw [up1_eq,if_neg (Ne.symm hne')]
 obtain ⟨hs2,hi2⟩:=inv_turn hi g none ((s1.σ g).ep+1) (.ghost idm ep (some (bm,c))) (Kp.refl _ _) (fun b1 c1 e=>by cases e) (.inl (by rw [eg];omega)) (fun hs=>⟨rfl,by rw [up1_eq,if_neg (Ne.symm hne),em,hid];exact Nat.le_refl _,fun bd' hbd'=>by rw [upm_eq,if_neg (Ne.symm hne),upm_eq,if_neg (Ne.symm hne')];exact hm⟩)
 have hst:=hs.trans hs2
 have hrel:Rel (W1.alloc (.mapIter (some bm) clock #[] clock)) F1 (upm (upm μ1 id (some (W1.heap.size,0))) g none) (up1 (up1 s1.σ id ⟨(s1.σ id).ep+1,some (.obj (.mapIter (some bm) clock #[] clock))⟩) g ⟨(s1.σ g).ep+1,some (.ghost idm ep (some (bm,c)))⟩) (.own id ((s1.σ id).ep+1) 0) (.pointer (some ⟨W1.heap.size,0,none⟩)):=by
  refine .own id _ 0 _ ?_ rfl fun bd hbd=>⟨W1.heap.size,0,by rw [upm_eq,if_neg (Ne.symm hne''),hμ],rfl⟩
  rw [up1_eq,if_neg (Ne.symm hne''),hσ]
  exact Nat.le_refl _
 refine fun hdf=>?_
 obtain ⟨Es2,s',hch2,hq⟩:=hc bm c
 refine chain_list hch2 _ F1 _ _ (hr1.put hst hi2 (dst:=o.dst) hrel) ro _ fun W'' F'' μ'' a'' hr'' hs' hd'=>⟨F'',μ'',s',hq,hr'',((hs1.trans hst).trans hs').q.d (hd'.trans (hdf.trans hd1))⟩
end
end Go.Proofs.YthgbdoofchknhaaGreatDoor.Sm
end
section
namespace Go.Proofs.YthgbdoofchknhaaGreatDoor.Sm
open Go.RowKit
theorem op_app1W {α:Type} (cF:α->List AV) (l:List α) (x:α) (hL:l.length<=140000000000) {P:Program} {N:Nat} {o:Oper} {s:St} {c:Call} {xo yo:Operand} {t e id id2 ep2:Nat} {ti ei:TI} (ho:o.op = .call c) (hc:c.callee = .builtin .append) (ha:c.args = #[xo,yo]) (hat:c.argTypes = #[t,t]) (ht:TiOk P t ti) (hk:ti.k = .slice e) (he:TiOk P e ei) (h0:(ei.n == 0)=false) (hsz:Nat.ble ei.sz 1000=true)
  (hx:∃ep,s.ev xo = .row id ep 0 (l.map cF).length/\s.σ id=⟨ep,some (.row e ei.n (l.map cF))⟩) (hy:s.ev yo = .row id2 ep2 0 1) (hid2:s.σ id2=⟨ep2,some (.row e ei.n [cF x])⟩) :
  OpLoc P N o s ⟨.row id ((s.σ id).ep+1) 0 ((l++[x]).map cF).length,[(id,⟨(s.σ id).ep+1,some (.row e ei.n ((l++[x]).map cF))⟩)],[id2]⟩:=by
 have h2:=Nat.le_of_ble_eq_true hsz
 refine op_appendR (els:=l.map cF) (els2:=[cF x]) ho hc ha hat ht hk he h0 (.inl hx) hy hid2 ?_ ?_ (by simp) rfl
 ·rw [List.length_map]
  show (l.length+1)*ei.sz<=_
  exact Nat.le_trans (Nat.mul_le_mul (show l.length+1<=140000000001 by omega) h2) (by decide)
 ·rw [List.length_map]
  show l.length+1<=_
  omega
def yEl (x:UInt8):List AV:=[.y x]
def unB (a b:UInt8):UInt8:=ofI8 (IntKind.i64.wrap ((BitVec.ofInt 64 (IntKind.i64.wrap (Lib.indexByte hexT a*2 ^ min (UInt64.ofNat 4).toNat 64)) ||| BitVec.ofInt 64 (IntKind.i64.wrap ((BitVec.ofInt 64 (Lib.indexByte hexT b) &&& BitVec.ofInt 64 (Int.ofNat 15)).toNat:Int))).toNat:Int))
def unhexL:List UInt8->List UInt8
 | a::b::r=>unB a b::unhexL r
 | _=>[]
theorem d_unhex (l:List UInt8) (hl:l.length<=140000000000):PDoes Tryz.prog 59 [.s l] (.sl (byteEls (unhexL l))):=by
  refine PDoes.of_bodyN Tryz.func59 rfl (by kernel_rfl) rfl rfl ?_
  refine jB ?_
  refine AW.text ?_
  refine wH rfl ?_
  refine jB ?_
  refine AW.text ?_
  refine RG.opS rfl (op_nilRow 103 5 1 rfl) rfl ?_
  refine wH rfl ?_;refine jA ?_
  refine AW.loopL (ι:=Nat × List UInt8) (fun i=>[(0,.s l),(3,.row 103 0 0 (i.2.map yEl).length),(4,.i .i64 ((2*i.1:Nat):Int))]) (fun i=>[(103,⟨0,some (.row 5 1 (i.2.map yEl))⟩)]) (fun i=>2*i.1<=l.length/\i.2.length=i.1/\i.2++unhexL (l.drop (2*i.1))=unhexL l) (fun i=>l.length - 2*i.1) (0,[]) ⟨Nat.zero_le _,rfl,rfl⟩ jW jW fun i hi=>?_
  obtain ⟨k,acc⟩:=i
  obtain ⟨hk,hacc,hq⟩:=hi
  simp only at hk hacc hq
  (repeat first|apply wA|apply wB|apply wC|apply wE|(apply zM;·kernel_rfl)|apply wF|apply wG)
  refine RG.runO ty_ok 0 [(6,.i .i64 ((2*k+1:Nat):Int))] 400 rfl ⟨?_,trivial⟩ ?_
  · refine congrArg (AV.i .i64) ?_
    rw [IntKind.wrap_i64]
    show (((2*k:Nat):Int)+1+9223372036854775808) % 18446744073709551616 - 9223372036854775808=_
    omega
  refine jB ?_
  refine AW.cond rfl (fun h1=>?_) (fun h1=>?_)
  · have h:2*k+1<l.length:=by have:((2*k+1:Nat):Int)<(l.length:Int):=of_decide_eq_true h1;omega
    rw [List.drop_eq_getElem_cons (show 2*k<l.length by omega),List.drop_eq_getElem_cons h] at hq
    have ha:l[2*k]?=some l[2*k]:=List.getElem?_eq_getElem (by omega)
    have hb:l[2*k+1]?=some l[2*k+1]:=List.getElem?_eq_getElem h
    generalize l[2*k]=a at ha hq
    generalize l[2*k+1]=b at hb hq
    refine jB ?_
    refine AW.draws mixed_ok ?_
    refine wH rfl ?_
    refine RG.opS rfl (op_indexS rfl (tk rfl) rfl rfl rfl ha) rfl ?_
    refine wH rfl ?_
    refine RG.callS rfl rfl rfl rfl rfl (d_IndexByte hexT a) rfl rfl ?_
    refine RG.runO ty_ok 0 [(20,.i .i64 ((2*k+1:Nat):Int))] 400 rfl ⟨?_,trivial⟩ ?_
    · refine congrArg (AV.i .i64) ?_
      rw [IntKind.wrap_i64]
      show (((2*k:Nat):Int)+1+9223372036854775808) % 18446744073709551616 - 9223372036854775808=_
      omega
    refine RG.opS rfl (op_indexS rfl (tk rfl) rfl rfl rfl hb) rfl ?_
    refine wH rfl ?_
    refine RG.callS rfl rfl rfl rfl rfl (d_IndexByte hexT b) rfl rfl ?_
    refine wH rfl ?_
    refine RG.opS rfl (op_app1W yEl acc (unB a b) (by omega) rfl rfl rfl rfl (tk rfl) rfl (tk rfl) rfl rfl ⟨_,rfl,rfl⟩ rfl rfl) rfl ?_;refine wH rfl ?_;refine jA ?_
    exact ⟨(k+1,acc++[unB a b]),⟨⟨by show 2*(k+1)<=_;omega,by rw [List.length_append,hacc];rfl,by
      show (acc++[unB a b])++unhexL (l.drop (2*(k+1)))=_
      rw [<- hq,List.append_assoc,show 2*(k+1)=2*k+1+1 by omega]
      rfl⟩,by show l.length - 2*(k+1)<l.length - 2*k;omega⟩,⟨rI rfl rfl,rR rfl rfl rfl,rI (by
        refine congrArg (AV.i .i64) ?_
        rw [IntKind.wrap_i64]
        show (((2*k:Nat):Int)+2+9223372036854775808) % 18446744073709551616 - 9223372036854775808=((2*(k+1):Nat):Int)
        omega) rfl,trivial⟩,jW⟩
  · have h:¬2*k+1<l.length:=by have:¬((2*k+1:Nat):Int)<(l.length:Int):=of_decide_eq_false h1;omega
    have e:unhexL (l.drop (2*k))=[]:=by
      have hl2:(l.drop (2*k)).length<=1:=by rw [List.length_drop];omega
      match l.drop (2*k),hl2 with
      | [],_=>rfl
      | [x],_=>rfl
    rw [e,List.append_nil] at hq
    refine jB ?_
    refine jE ?_;refine jA ?_
    refine AW.ret (retQA ty_ok rfl rfl rfl ?_)
    exact rowAll (congrArg (List.map yEl) hq)
end Go.Proofs.YthgbdoofchknhaaGreatDoor.Sm
end
section
namespace Go.Proofs.YthgbdoofchknhaaGreatDoor.Sm
open Go.RowKit
theorem Rm.refIs {π:List (Nat × Nat)} {σ σ':Sto} {x:AV} {id id' ep ep':Nat} {k:RK} {bd bd':Body} (e:x = .ref id ep k) (hm:lkP π id=some id') (h:σ id=⟨ep,some bd⟩) (h':σ' id'=⟨ep',some bd'⟩):Rm π σ σ' x (.ref id' ep' k):=e ▸ .ref (lkP_ok hm) h h'
theorem Rm.aggP {π:List (Nat × Nat)} {σ σ':Sto} {x:AV} {cs:List AV} (e:x = .agg cs) (h:cs.all (fun y=>y.pu1 && y.one)=true):Rm π σ σ' x (.agg cs):=by
 subst e
 rw [List.all_eq_true] at h
 refine .agg rfl (fun j y hy=>?_) (fun j y y' hy hy'=>?_)
 ·have:=h y (List.mem_of_getElem? hy)
  rw [Bool.and_eq_true] at this
  exact this.2
 ·have:=h y (List.mem_of_getElem? hy)
  rw [Bool.and_eq_true] at this
  rw [hy] at hy'
  cases hy'
  exact .pu this.1
theorem run_pair (A B:ByteArray) (W:World):(Instr.build 57 #[(0,.string A),(1,.string B)]).run Tryz.prog W = .ok (.agg #[.string A,.string B]) W:=by kernel_rfl
theorem op_pair {N:Nat} {o:Oper} {s:St} {x y:Operand} {k:KE} (ho:o.op = .build 57 #[(0,x),(1,y)]) (hx:s.ev x = .s k.2.1) (hy:s.ev y = .s k.2.2):OpLoc Tryz.prog N o s ⟨.agg (keA k),[],[]⟩:=by
 refine oploc_val [] _ fun s' W F μ a g1 g2 hs=>⟨keV k,?_,.pure (ke_rel _)⟩
 have ex:=hs.ev x
 rw [g1 x (by rw [ho];simp [Op.operands]),hx] at ex
 have ey:=hs.ev y
 rw [g1 y (by rw [ho];simp [Op.operands]),hy] at ey
 have e:(#[(0,x),(1,y)]:Array (Nat × Operand)).map (fun p=>(p.1,a.eval p.2)) = #[(0,.string ⟨k.2.1.toArray⟩),(1,.string ⟨k.2.2.toArray⟩)]:=by
  simp only [List.map_toArray,List.map_cons,List.map_nil,ex.s',ey.s']
 simp only [execOp,ho,Sem.run_bind,e,run_pair,Result.andThen_ok,Sem.run_pure]
 rfl
def kindsL:List KE:=[(1,[119,97,110,116],[119]),(2,[116,105,99,107],[]),(3,[100,101,108,105,118,101,114],[97]),(4,[100,114,111,112],[97]),(5,[116,119,105,110],[97]),(6,[112,97,99,107,101,116],[97,98,104]),(7,[109,111,118,101],[97]),(8,[99,114,97,115,104],[97]),(9,[115,116,97,114,116],[]),(10,[102,117,115,101],[97])]
theorem m_kinds (q:Nat->Option (Nat × Nat)):MDoes Tryz.prog 16 [] (gl q [] []) (.ref 7 0 .map) (gl q [] [(7,⟨0,some (mapK kindsL)⟩)]):=by
 refine MDoes.of_body Tryz.func16 rfl (by kernel_rfl) rfl rfl ?_
 refine jB ?_
 refine AW.text ?_
 refine wH rfl ?_
 refine jB ?_
 refine AW.text ?_
 refine RG.opS rfl (op_makeMapK (id:=7) rfl) rfl ?_
 refine wH rfl ?_
 refine RG.opS rfl (op_pair (k:=(1,[119,97,110,116],[119])) rfl rfl rfl) rfl ?_
 refine wH rfl ?_
 refine RG.opS rfl (op_putK (id:=7) (l:=[]) (n:=1) (y:=(1,[119,97,110,116],[119])) rfl rfl rfl rfl rfl rfl rfl) rfl ?_
 refine wH rfl ?_
 refine RG.opS rfl (op_pair (k:=(2,[116,105,99,107],[])) rfl rfl rfl) rfl ?_
 refine wH rfl ?_
 refine RG.opS rfl (op_putK (id:=7) (l:=[(1,[119,97,110,116],[119])]) (n:=2) (y:=(2,[116,105,99,107],[])) rfl rfl rfl rfl rfl rfl rfl) rfl ?_
 refine wH rfl ?_
 refine RG.opS rfl (op_pair (k:=(3,[100,101,108,105,118,101,114],[97])) rfl rfl rfl) rfl ?_
 refine wH rfl ?_
 refine RG.opS rfl (op_putK (id:=7) (l:=[(1,[119,97,110,116],[119]),(2,[116,105,99,107],[])]) (n:=3) (y:=(3,[100,101,108,105,118,101,114],[97])) rfl rfl rfl rfl rfl rfl rfl) rfl ?_
 refine wH rfl ?_
 refine RG.opS rfl (op_pair (k:=(4,[100,114,111,112],[97])) rfl rfl rfl) rfl ?_
 refine wH rfl ?_
 refine RG.opS rfl (op_putK (id:=7) (l:=[(1,[119,97,110,116],[119]),(2,[116,105,99,107],[]),(3,[100,101,108,105,118,101,114],[97])]) (n:=4) (y:=(4,[100,114,111,112],[97])) rfl rfl rfl rfl rfl rfl rfl) rfl ?_
 refine wH rfl ?_
 refine RG.opS rfl (op_pair (k:=(5,[116,119,105,110],[97])) rfl rfl rfl) rfl ?_
 refine wH rfl ?_
 refine RG.opS rfl (op_putK (id:=7) (l:=[(1,[119,97,110,116],[119]),(2,[116,105,99,107],[]),(3,[100,101,108,105,118,101,114],[97]),(4,[100,114,111,112],[97])]) (n:=5) (y:=(5,[116,119,105,110],[97])) rfl rfl rfl rfl rfl rfl rfl) rfl ?_
 refine wH rfl ?_
 refine RG.opS rfl (op_pair (k:=(6,[112,97,99,107,101,116],[97,98,104])) rfl rfl rfl) rfl ?_
 refine wH rfl ?_
 refine RG.opS rfl (op_putK (id:=7) (l:=[(1,[119,97,110,116],[119]),(2,[116,105,99,107],[]),(3,[100,101,108,105,118,101,114],[97]),(4,[100,114,111,112],[97]),(5,[116,119,105,110],[97])]) (n:=6) (y:=(6,[112,97,99,107,101,116],[97,98,104])) rfl rfl rfl rfl rfl rfl rfl) rfl ?_
 refine wH rfl ?_
 refine RG.opS rfl (op_pair (k:=(7,[109,111,118,101],[97])) rfl rfl rfl) rfl ?_
 refine wH rfl ?_
 refine RG.opS rfl (op_putK (id:=7) (l:=[(1,[119,97,110,116],[119]),(2,[116,105,99,107],[]),(3,[100,101,108,105,118,101,114],[97]),(4,[100,114,111,112],[97]),(5,[116,119,105,110],[97]),(6,[112,97,99,107,101,116],[97,98,104])]) (n:=7) (y:=(7,[109,111,118,101],[97])) rfl rfl rfl rfl rfl rfl rfl) rfl ?_
 refine wH rfl ?_
 refine RG.opS rfl (op_pair (k:=(8,[99,114,97,115,104],[97])) rfl rfl rfl) rfl ?_
 refine wH rfl ?_
 refine RG.opS rfl (op_putK (id:=7) (l:=[(1,[119,97,110,116],[119]),(2,[116,105,99,107],[]),(3,[100,101,108,105,118,101,114],[97]),(4,[100,114,111,112],[97]),(5,[116,119,105,110],[97]),(6,[112,97,99,107,101,116],[97,98,104]),(7,[109,111,118,101],[97])]) (n:=8) (y:=(8,[99,114,97,115,104],[97])) rfl rfl rfl rfl rfl rfl rfl) rfl ?_
 refine wH rfl ?_
 refine RG.opS rfl (op_pair (k:=(9,[115,116,97,114,116],[])) rfl rfl rfl) rfl ?_
 refine wH rfl ?_
 refine RG.opS rfl (op_putK (id:=7) (l:=[(1,[119,97,110,116],[119]),(2,[116,105,99,107],[]),(3,[100,101,108,105,118,101,114],[97]),(4,[100,114,111,112],[97]),(5,[116,119,105,110],[97]),(6,[112,97,99,107,101,116],[97,98,104]),(7,[109,111,118,101],[97]),(8,[99,114,97,115,104],[97])]) (n:=9) (y:=(9,[115,116,97,114,116],[])) rfl rfl rfl rfl rfl rfl rfl) rfl ?_
 refine wH rfl ?_
 refine RG.opS rfl (op_pair (k:=(10,[102,117,115,101],[97])) rfl rfl rfl) rfl ?_
 refine wH rfl ?_
 refine RG.opS rfl (op_putK (id:=7) (l:=[(1,[119,97,110,116],[119]),(2,[116,105,99,107],[]),(3,[100,101,108,105,118,101,114],[97]),(4,[100,114,111,112],[97]),(5,[116,119,105,110],[97]),(6,[112,97,99,107,101,116],[97,98,104]),(7,[109,111,118,101],[97]),(8,[99,114,97,115,104],[97]),(9,[115,116,97,114,116],[])]) (n:=10) (y:=(10,[102,117,115,101],[97])) rfl rfl rfl rfl rfl rfl rfl) rfl ?_
 refine wH rfl ?_;refine jA ?_
 exact AW.ret (retM1 rfl (Rm.refIs rfl rfl rfl rfl) ⟨.obj rfl rfl,trivial⟩)
def rdB (ws:List (List UInt8)):List (Nat × SB):=[(0,⟨0,some (.box 63 [.sl (strEls ws)])⟩)]
theorem m_word (ws:List (List UInt8)) (q:Nat->Option (Nat × Nat)):MDoes Tryz.prog 34 [.own 0 0 0] (gl q [0] (rdB ws)) (.s (ws.headD [])) (gl q [0] (rdB ws.tail)):=by
  refine MDoes.of_body Tryz.func34 rfl (by kernel_rfl) rfl rfl ?_
  cases ws with
  | nil =>
    refine jA ?_;refine AW.condT rfl ?_;refine jA ?_
    exact AW.ret (retM1 rfl (Rm.is rfl rfl) ⟨.ghost rfl rfl rfl,.boxL rfl ⟨Rn.is rfl rfl,trivial⟩ rfl,trivial⟩)
  | cons x r =>
    have hl:(strEls (x::r)).length=r.length+1:=by simp [strEls]
    refine jA ?_
    refine AW.cond rfl (fun h=>?_) (fun _=>?_)
    · have:(((strEls (x::r)).length:Nat):Int)=0:=of_decide_eq_true h
      rw [hl] at this
      omega
    refine jA ?_
    refine RG.opS rfl (op_index rfl (tk rfl) rfl (tk rfl) rfl rfl (show (strEls (x::r))[0]?=some [.s x] from rfl) rfl) rfl ?_
    refine wH rfl ?_;refine jA ?_
    refine RG.opS rfl (op_slice (l:=1) (h:=(strEls (x::r)).length) rfl (tk rfl) rfl (tk rfl) rfl (.at_ rfl) .no (by rw [hl];omega) (Nat.le_refl _) (fun cs h=>by
      simp only [strEls,List.mem_map] at h
      obtain ⟨y,_,rfl⟩:=h
      rfl)) rfl ?_
    have e:(((strEls (x::r)).drop 1).take ((strEls (x::r)).length - 1))=strEls r:=by
      rw [hl]
      show (strEls r).take (r.length+1 - 1)=_
      exact List.take_of_length_le (by simp [strEls])
    rw [e]
    refine wH rfl ?_;refine jA ?_
    exact AW.ret (retM1 rfl (Rm.is rfl rfl) ⟨.ghost rfl rfl rfl,.boxL rfl ⟨Rn.is rfl rfl,trivial⟩ rfl,trivial⟩)
def Sh (ws:List (List UInt8)):Prop:=∀w∈ws,w.length<=70000000000
theorem Sh.hd {ws:List (List UInt8)} (h:Sh ws):(ws.headD []).length<=70000000000:=by
 cases ws with
 | nil=>exact Nat.zero_le _
 | cons x r=>exact h x (by simp)
theorem Sh.tl {ws:List (List UInt8)} (h:Sh ws):Sh ws.tail:=fun w hw=>h w (List.mem_of_mem_tail hw)
theorem m_number (ws:List (List UInt8)) (h:Sh ws) (q:Nat->Option (Nat × Nat)):MDoes Tryz.prog 35 [.own 0 0 0] (gl q [0] (rdB ws)) (.i .i64 (atoiV (ws.headD []))) (gl q [0] (rdB ws.tail)):=by
 refine MDoes.of_body Tryz.func35 rfl (by kernel_rfl) rfl rfl ?_
 have hh:=h.hd
 refine jA ?_
 refine RG.ownN [(0,0)] [(0,0)] (fun q=>m_word ws q) rfl rfl rfl rfl rfl rfl rfl rfl rfl rfl ?_
 generalize ws.headD []=w at *
 refine RG.callS rfl rfl rfl rfl rfl (d_Atoi w (by omega)) rfl rfl ?_;refine wH rfl ?_;refine jA ?_
 exact AW.ret (retM1 rfl (Rm.is rfl rfl) ⟨.ghost rfl rfl rfl,.boxL rfl ⟨Rn.is rfl rfl,trivial⟩ rfl,trivial⟩)
theorem m_head (ws:List (List UInt8)) (h:Sh ws) (q:Nat->Option (Nat × Nat)):MDoes Tryz.prog 36 [.own 0 0 0] (gl q [0] (rdB ws)) (.agg [.u (puV ((ws.headD []).take 16)),.u (puV ((ws.headD []).drop 16))]) (gl q [0] (rdB ws.tail)):=by
 refine MDoes.of_body Tryz.func36 rfl (by kernel_rfl) rfl rfl ?_
 have hh:=h.hd
 refine jA ?_
 refine RG.ownN [(0,0)] [(0,0)] (fun q=>m_word ws q) rfl rfl rfl rfl rfl rfl rfl rfl rfl rfl ?_
 generalize ws.headD []=w at *
 refine wH rfl ?_;(repeat first|apply wA|apply wB|apply wC|apply wE|(apply zM;·kernel_rfl)|apply wF|apply wG)
 refine RG.runO ty_ok 0 [(13,.i .i64 ((min 16 w.length:Nat):Int))] 400 rfl ⟨?_,trivial⟩ ?_
 ·refine congrArg (AV.i .i64) ?_
  show min (16:Int) (w.length:Int)=_
  omega
 have hmin:min 16 w.length<=w.length:=Nat.min_le_right _ _
 have e1:(w.drop 0).take (min 16 w.length - 0)=w.take 16:=by
  rw [List.drop_zero,Nat.sub_zero,<- List.take_eq_take_min]
 have e2:(w.drop (min 16 w.length)).take (w.length - min 16 w.length)=w.drop 16:=by
  rw [List.take_of_length_le (by rw [List.length_drop];exact Nat.le_refl _)]
  by_cases hl:16<=w.length
  ·rw [Nat.min_eq_left hl]
  ·rw [Nat.min_eq_right (by omega),List.drop_length,List.drop_eq_nil_of_le (by omega)]
 refine jA ?_
 refine RG.opS rfl (op_sliceS (l:=0) (h:=min 16 w.length) rfl (tk rfl) rfl rfl .no (.at_ rfl) (Nat.zero_le _) hmin) rfl ?_
 rw [e1]
 refine wH rfl ?_
 refine RG.callS rfl rfl rfl rfl rfl (d_ParseUint (w.take 16) (by rw [List.length_take];omega)) rfl rfl ?_;refine wH rfl ?_;refine jA ?_
 refine RG.opS rfl (op_sliceS (l:=min 16 w.length) (h:=w.length) rfl (tk rfl) rfl rfl (.at_ rfl) .no hmin (Nat.le_refl _)) rfl ?_
 rw [e2]
 refine wH rfl ?_
 refine RG.callS rfl rfl rfl rfl rfl (d_ParseUint (w.drop 16) (by rw [List.length_drop];omega)) rfl rfl ?_;refine wH rfl ?_;refine jA ?_
 exact AW.ret (retMA ty_ok rfl rfl (Rm.aggP rfl rfl) ⟨.ghost rfl rfl rfl,.boxL rfl ⟨Rn.is rfl rfl,trivial⟩ rfl,trivial⟩)
theorem unhexL_len:∀(l:List UInt8),(unhexL l).length<=l.length
 | []=>Nat.le_refl 0
 | [x]=>Nat.zero_le _
 | a::b::r=>by
  have:=unhexL_len r
  show (unhexL r).length+1<=r.length+1+1
  omega
open Classical in
noncomputable def wantV (l:List UInt8):Cfg:=if h:∃x,IsEnc Cfg.fit Cfg.words x l then h.choose else zeroC
open Classical in
theorem d_want (l:List UInt8) (hb:l.length<=140737488355328):∃e:Int,PDoes Tryz.prog 58 [.sl (byteEls l)] (.tup [.agg (cfgC (wantV l)),.i .i64 e]):=by
 by_cases h:∃x,IsEnc Cfg.fit Cfg.words x l
 ·refine ⟨0,?_⟩
  rw [wantV,dif_pos h]
  exact d_ReadConfig_yes l _ h.choose_spec reads_cfg hb
 ·refine ⟨2,?_⟩
  rw [wantV,dif_neg h]
  exact d_ReadConfig_no l h hb
theorem m_want (ws:List (List UInt8)) (h:Sh ws) (q:Nat->Option (Nat × Nat)):MDoes Tryz.prog 37 [.own 0 0 0] (gl q [0] (rdB ws)) (.agg (cfgC (wantV (unhexL (ws.headD []))))) (gl q [0] (rdB ws.tail)):=by
 refine MDoes.of_body Tryz.func37 rfl (by kernel_rfl) rfl rfl ?_
 have hh:=h.hd
 refine jA ?_
 refine RG.ownN [(0,0)] [(0,0)] (fun q=>m_word ws q) rfl rfl rfl rfl rfl rfl rfl rfl rfl rfl ?_
 generalize ws.headD []=w at *
 refine RG.callMS rfl rfl rfl rfl rfl rfl (d_unhex w (by omega)) rfl ?_
 obtain ⟨e,he⟩:=d_want (unhexL w) (by have:=unhexL_len w;omega)
 refine RG.callMS rfl rfl rfl rfl rfl rfl he rfl ?_
 refine wH rfl ?_;refine jA ?_
 exact AW.ret (retMA ty_ok rfl rfl (Rm.aggP rfl rfl) ⟨.ghost rfl rfl rfl,.boxL rfl ⟨Rn.is rfl rfl,trivial⟩ rfl,trivial⟩)
end Go.Proofs.YthgbdoofchknhaaGreatDoor.Sm
end
section
namespace Go.Proofs.YthgbdoofchknhaaGreatDoor.Sm
open Go.RowKit
structure SI where
 kind:Int
 a:Int
 b:Int
 head:Hd
 want:Cfg
def siC (s:SI):List AV:=[.i .i64 s.kind,.i .i64 s.a,.i .i64 s.b,.u s.head.hi,.u s.head.lo]++cfgC s.want
def zeroSI:SI:=⟨0,0,0,⟨0,0⟩,zeroC⟩
noncomputable def fldC (x:SI × List (List UInt8)) (c:UInt8):SI × List (List UInt8) :=
 if c=97 then ({ x.1 with a:=atoiV (x.2.headD []) },x.2.tail)
 else if c=98 then ({ x.1 with b:=atoiV (x.2.headD []) },x.2.tail)
 else if c=104 then ({ x.1 with head:=⟨puV ((x.2.headD []).take 16),puV ((x.2.headD []).drop 16)⟩ },x.2.tail)
 else if c=119 then ({ x.1 with want:=wantV (unhexL (x.2.headD [])) },x.2.tail)
 else x
def fndW (w:List UInt8):List KE->Option KE
 | []=>none
 | x::l=>if x.2.1=w then some x else fndW w l
def kindOf (w:List UInt8):Int × List UInt8:=((fndW w kindsL).map fun x=>(x.1,x.2.2)).getD (0,[])
noncomputable def stepW (ws:List (List UInt8)):SI × List (List UInt8) :=
 (kindOf (ws.headD [])).2.foldl fldC ({ zeroSI with kind:=(kindOf (ws.headD [])).1 },ws.tail)
abbrev esK:Array MapEntry:=kEs kindsL
theorem esK_mem {l:List KE} {e:MapEntry} (h:e∈(kEs l).toList):∃x,l[e.born]?=some x/\e.key = .int .i64 x.1/\e.val=keV x:=by
 simp only [kEs,List.mem_map] at h
 obtain ⟨p,hp,rfl⟩:=h
 exact ⟨p.1,by simpa using List.mem_zipIdx_iff_getElem?.1 hp,rfl,rfl⟩
theorem esK_born {l:List KE} {j:Nat} {x:KE} (h:l[j]?=some x):∃e∈(kEs l).toList,e.born=j:=by
 refine ⟨⟨.int .i64 x.1,keV x,j⟩,?_,rfl⟩
 simp only [kEs,List.mem_map]
 exact ⟨(x,j),by simpa using List.mem_zipIdx_iff_getElem?.2 h,rfl⟩
theorem esK_lt:∀x∈esK.toList,x.born<kindsL.length:=fun x hx=>by
 obtain ⟨y,hy,_⟩:=esK_mem hx
 exact (List.getElem?_eq_some_iff.1 hy).1
theorem esK_nodup:(esK.toList.map (·.born)).Nodup:=by
 have:esK.toList.map (·.born)=List.range 10:=rfl
 rw [this]
 exact List.nodup_range
theorem leftOf_mem {es:Array MapEntry} {seen:Array Nat} {e:MapEntry} (h:e∈(leftOf es seen).toList):e∈es.toList/\e.born∉seen.toList:=by
 simpa [leftOf] using h
theorem leftOf_push {es:Array MapEntry} {seen:Array Nat} {e:MapEntry} (h:e∈(leftOf es seen).toList):(leftOf es (seen.push e.born)).size<(leftOf es seen).size:=by
 have hm:=leftOf_mem h
 have a:∀f:MapEntry->Bool,(Array.filter f es).size=(es.toList.filter f).length:=fun f=>by rw [<- Array.length_toList,Array.toList_filter]
 unfold leftOf
 rw [a,a]
 refine filter_lt _ _ (fun x hx=>?_) e ?_ ?_ es.toList hm.1
 ·simp at hx ⊢
  exact hx.1
 ·simpa using hm.2
 ·simp
theorem leftOf_zero {es:Array MapEntry} {seen:Array Nat} (h:(leftOf es seen).size=0):∀e∈es.toList,e.born∈seen.toList:=by
 intro e he
 apply Classical.byContradiction
 intro hn
 have hm:e∈(leftOf es seen).toList:=by
  simp only [leftOf,Array.toList_filter,List.mem_filter]
  exact ⟨he,by simpa using hn⟩
 have:=List.length_pos_of_mem hm
 rw [Array.length_toList] at this
 omega
theorem fnd_none {w:List UInt8}:∀{l:List KE},fndW w l=none->∀x∈l,x.2.1≠w
 | [],_,x,hx=>by cases hx
 | y::l,h,x,hx=>by
  unfold fndW at h
  split at h
  ·cases h
  ·rcases List.mem_cons.1 hx with rfl | hx
   ·assumption
   ·exact fnd_none h x hx
theorem fnd_some {w:List UInt8}:∀{l:List KE} {x:KE},fndW w l=some x->x∈l/\x.2.1=w
 | [],_,h=>by cases h
 | y::l,x,h=>by
  unfold fndW at h
  split at h
  ·obtain rfl:=Option.some.inj h
   exact ⟨by simp,by assumption⟩
  ·obtain ⟨h1,h2⟩:=fnd_some h
   exact ⟨List.mem_cons_of_mem _ h1,h2⟩
theorem kinds_apart {i j:Nat} {x y:KE} (hx:kindsL[i]?=some x) (hy:kindsL[j]?=some y) (e:x.2.1=y.2.1):i=j:=by
 have key:∀i j:Fin 10,kindsL[i.val].2.1=kindsL[j.val].2.1->i=j:=by decide
 obtain ⟨hi,rfl⟩:=List.getElem?_eq_some_iff.1 hx
 obtain ⟨hj,rfl⟩:=List.getElem?_eq_some_iff.1 hy
 exact congrArg Fin.val (key ⟨i,hi⟩ ⟨j,hj⟩ e)
structure KJ (w:List UInt8) (i:Array Nat × Int × List UInt8):Prop where
 yes:∀(x:KE) (j:Nat),kindsL[j]?=some x->j∈i.1.toList->x.2.1=w->i.2.1=x.1/\i.2.2=x.2.2
 no:(∀(x:KE) (j:Nat),kindsL[j]?=some x->j∈i.1.toList->x.2.1≠w)->i.2.1=0/\i.2.2=[]
theorem KJ.end {w:List UInt8} {i:Array Nat × Int × List UInt8} (h:KJ w i) (hz:(leftOf esK i.1).size=0):kindOf w=i.2:=by
 have hall:∀(x:KE) (j:Nat),kindsL[j]?=some x->j∈i.1.toList:=fun x j hj=>by
  obtain ⟨e,he,rfl⟩:=esK_born hj
  exact leftOf_zero hz e he
 unfold kindOf
 cases hf:fndW w kindsL with
 | none =>
  have:=h.no fun x j hj _=>fnd_none hf x (List.mem_of_getElem? hj)
  exact Prod.ext this.1.symm this.2.symm
 | some x =>
  obtain ⟨h1,h2⟩:=fnd_some hf
  obtain ⟨j,hj⟩:=List.mem_iff_getElem?.1 h1
  have:=h.yes x j hj (hall x j hj) h2
  exact Prod.ext this.1.symm this.2.symm
theorem KJ.hit {w:List UInt8} {seen:Array Nat} {k:Int} {has:List UInt8} (h:KJ w (seen,k,has)) {x:KE} {j:Nat} (hj:kindsL[j]?=some x) (hw:x.2.1=w):KJ w (seen.push j,x.1,x.2.2) where
 yes y i hi _ hy:=by
  obtain rfl:=kinds_apart hi hj (hy.trans hw.symm)
  rw [hi] at hj
  obtain rfl:=Option.some.inj hj
  exact ⟨rfl,rfl⟩
 no hn:=absurd hw (hn x j hj (by simp))
theorem KJ.miss {w:List UInt8} {seen:Array Nat} {k:Int} {has:List UInt8} (h:KJ w (seen,k,has)) {x:KE} {j:Nat} (hj:kindsL[j]?=some x) (hw:¬x.2.1=w):KJ w (seen.push j,k,has) where
 yes y i hi him hy:=by
  have hi':i∈seen.toList\/i=j:=by simpa using him
  rcases hi' with hi' | rfl
  ·exact h.yes y i hi hi' hy
  ·rw [hi] at hj
   obtain rfl:=Option.some.inj hj
   exact absurd hy hw
 no hn:=h.no fun y i hi him=>hn y i hi (by simp at him ⊢;exact .inl him)
def zc:List AV:=[.i .i64 0,.i .i64 0,.i .i64 0,.u 0,.u 0,.raw (.slice none 0 0),.i .i64 0,.raw (.slice none 0 0),.raw (.slice none 0 0),.raw (.slice none 0 0)]
theorem kind_has {w:List UInt8} {k:Int} {has:List UInt8} (h:kindOf w=(k,has)):∀c∈has,c=97\/c=98\/c=104\/c=119:=by
 have key:∀x∈kindsL,∀c∈x.2.2,c=97\/c=98\/c=104\/c=119:=by decide
 unfold kindOf at h
 cases hf:fndW w kindsL with
 | none =>
  rw [hf] at h
  obtain ⟨_,rfl⟩:0=k/\[]=has:=by simpa using h
  exact fun c hc=>absurd hc (by simp)
 | some x =>
  rw [hf] at h
  obtain ⟨_,rfl⟩:x.1=k/\x.2.2=has:=by simpa using h
  exact key x (fnd_some hf).1
theorem dec_has {has:List UInt8} (h:∀c∈has,c=97\/c=98\/c=104\/c=119) {p:Nat} (hp:p<has.length):Utf8.decode ⟨has.toArray⟩ p=(has[p].toNat,1):=by
 have hsz:p<(⟨has.toArray⟩:ByteArray).size:=by show p<has.toArray.size;simpa using hp
 have he:(⟨has.toArray⟩:ByteArray)[p]'hsz=has[p]:=rfl
 rw [decode_ascii _ p hsz (by rw [he];rcases h has[p] (List.getElem_mem hp) with e | e | e | e <;> rw [e] <;> decide),he]
theorem m_step (ws:List (List UInt8)) (h:Sh ws) (q:Nat->Option (Nat × Nat)):MDoes Tryz.prog 18 [.own 0 0 0] (gl q [0] (rdB ws)) (.agg (siC (stepW ws).1)) (gl q [0] (rdB (stepW ws).2)):=by
 refine MDoes.of_body Tryz.func18 rfl (by kernel_rfl) rfl rfl ?_
 refine jA ?_
 refine RG.ownN [(0,0)] [(0,0)] (fun q=>m_word ws q) rfl rfl rfl rfl rfl rfl rfl rfl rfl rfl ?_
 refine wH rfl ?_;refine jB ?_
 refine AW.rangeM 1 (o:=_) (rest:=_) (idm:=113) (ep:=1) (clock:=kindsL.length) (es:=esK) 114 115 (by decide) (by decide) (by decide) rfl rfl rfl mapK_under ?_
 refine RG.ownN [] [(7,113)] (fun q=>m_kinds q) rfl rfl rfl rfl rfl rfl rfl rfl rfl rfl ?_
 refine RG.nil ⟨rfl,rfl,rfl,fun bm c=>?_⟩
 refine RG.nil ?_
 show AW _ _ _ _ _
 refine jB ?_
 generalize hw:ws.headD []=w
 refine AW.loopL (ι:=Array Nat × Int × List UInt8) (fun i=>[(0,.own 0 0 0),(2,.own 2 0 0),(3,.own 3 0 0),(4,.s i.2.2),(5,.s w),(14,.own 114 0 0)])
  (fun i=>gl q [0] [(0,⟨0,some (.box 63 [.sl (strEls ws.tail)])⟩),(2,⟨0,some (.box 36 zc)⟩),(3,⟨0,some (.box 36 (siC { zeroSI with kind:=i.2.1 }))⟩),(113,⟨0,some (mapK kindsL)⟩),(114,⟨0,some (.obj (.mapIter (some bm) kindsL.length i.1 kindsL.length))⟩),(115,⟨0,some (.ghost 113 0 (some (bm,c)))⟩)])
  (fun i=>KJ w i) (fun i=>(leftOf esK i.1).size) (#[],0,[]) ⟨fun x j _ hj=>by simp at hj,fun _=>⟨rfl,rfl⟩⟩ ?_ ?_ fun i hi=>?_
 ·exact ⟨rO rfl rfl rfl,rO rfl rfl rfl,rO rfl rfl rfl,rI rfl rfl,rI rfl rfl,rO rfl rfl rfl,trivial⟩
 ·exact ⟨.ghost rfl rfl rfl,.boxL rfl ⟨rI rfl rfl,trivial⟩ rfl,.same rfl rfl rfl,.boxL rfl ⟨rI rfl rfl,rI rfl rfl,rI rfl rfl,rI rfl rfl,rI rfl rfl,Rn.nil,rI (congrArg (AV.i .i64) line_i.1.symm) rfl,Rn.nil,Rn.nil,Rn.nil,trivial⟩ rfl,.obj rfl rfl,.obj rfl rfl,.ghost rfl rfl rfl,trivial⟩
 obtain ⟨seen,k,has⟩:=i
 refine jB ?_
 refine AW.nextM (id:=114) (ep:=0) (idm:=113) (epm:=0) (g:=115) (eg:=0) (bm:=bm) (c:=c) (since:=kindsL.length) (c0:=kindsL.length) (clock:=kindsL.length) (d:=15) (es:=esK) (seen:=seen) rfl rfl rfl rfl rfl rfl rfl rfl rfl esK_lt (Nat.le_refl _) (fun hz=>?_) (fun e he=>?_)
 rotate_left
 ·obtain ⟨hmem,hnew⟩:=leftOf_mem he
  obtain ⟨x,hx,hkey,hval⟩:=esK_mem hmem
  refine wH rfl ?_;refine jB ?_;refine AW.condT rfl ?_;refine jB ?_
  refine AW.text ?_
  refine RG.opS rfl (op_entryM (id:=114) (idm:=113) (g:=115) (bm:=bm) (c:=c) (since:=kindsL.length) (clock:=kindsL.length) (es:=esK) (seen:=seen) (e:=e) (k:=.i .i64 x.1) (v:=.agg (keA x)) rfl rfl rfl rfl rfl hmem esK_nodup (fun W F=>by rw [hkey];exact .i _ _) (fun W F=>by rw [hval];exact ke_rel x)) rfl ?_
  refine wH rfl ?_;refine jA ?_
  refine AW.cond rfl (fun h1=>?_) (fun h1=>?_)
  ·refine jB ?_;refine wG ?_;refine wH rfl ?_;refine jB ?_
   exact ⟨(seen.push e.born,x.1,x.2.2),⟨hi.hit hx (of_decide_eq_true h1),leftOf_push he⟩,⟨rO rfl rfl rfl,rO rfl rfl rfl,rO rfl rfl rfl,rI rfl rfl,rI rfl rfl,rO rfl rfl rfl,trivial⟩,⟨.ghost rfl rfl rfl,.same rfl rfl rfl,.same rfl rfl rfl,.same rfl rfl rfl,.obj rfl rfl,.obj rfl rfl,.ghost rfl rfl rfl,trivial⟩⟩
  ·refine jB ?_
   exact ⟨(seen.push e.born,k,has),⟨hi.miss hx (of_decide_eq_false h1),leftOf_push he⟩,⟨rO rfl rfl rfl,rO rfl rfl rfl,rO rfl rfl rfl,rI rfl rfl,rI rfl rfl,rO rfl rfl rfl,trivial⟩,⟨.ghost rfl rfl rfl,.same rfl rfl rfl,.same rfl rfl rfl,.same rfl rfl rfl,.obj rfl rfl,.obj rfl rfl,.ghost rfl rfl rfl,trivial⟩⟩
 have hk:kindOf w=(k,has):=hi.end hz
 have hs:stepW ws=has.foldl fldC ({ zeroSI with kind:=k },ws.tail):=by unfold stepW;rw [hw,hk]
 have hasc:=kind_has hk
 clear hi hz hw hk
 refine wH rfl ?_;refine jB ?_;refine AW.condF rfl ?_;refine jE ?_;refine jB ?_
 refine AW.text ?_
 refine wH rfl ?_
 refine RG.opS rfl (op_rangeS (id:=129) (l:=has) rfl (by kernel_rfl) rfl) rfl ?_
 refine wH rfl ?_;refine jA ?_
 refine AW.loopL (ι:=Nat × SI × List (List UInt8)) (fun i=>[(0,.own 0 0 0),(2,.own 2 0 0),(3,.own 3 0 0),(29,.own 129 0 0)])
  (fun i=>gl q [0] [(0,⟨0,some (.box 63 [.sl (strEls i.2.2)])⟩),(2,⟨0,some (.box 36 zc)⟩),(3,⟨0,some (.box 36 (siC i.2.1))⟩),(129,⟨0,some (.obj (.stringIter ⟨has.toArray⟩ i.1))⟩)])
  (fun i=>i.1<=has.length/\(has.drop i.1).foldl fldC (i.2.1,i.2.2)=stepW ws/\Sh i.2.2) (fun i=>has.length - i.1) (0,{ zeroSI with kind:=k },ws.tail) ⟨Nat.zero_le _,hs.symm,h.tl⟩ ?_ ?_ fun i hi=>?_
 ·exact ⟨rO rfl rfl rfl,rO rfl rfl rfl,rO rfl rfl rfl,rO rfl rfl rfl,trivial⟩
 ·exact ⟨.ghost rfl rfl rfl,.same rfl rfl rfl,.same rfl rfl rfl,.same rfl rfl rfl,.obj rfl rfl,trivial⟩
 obtain ⟨p,st,vs⟩:=i
 obtain ⟨hp,hf,hsh⟩:=hi
 simp only at hp hf hsh
 refine jB ?_
 refine AW.text ?_
 by_cases hlt:p<has.length
 ·rw [List.drop_eq_getElem_cons hlt,List.foldl_cons] at hf
  have hc:has[p]?=some has[p]:=List.getElem?_eq_getElem hlt
  have hd:=dec_has hasc hlt
  rcases hasc has[p] (List.getElem_mem hlt) with e | e | e | e
  ·rw [e] at hd hf
   refine RG.opS rfl (op_nextS (id:=129) (l:=has) (p:=p) rfl rfl rfl hlt hd) rfl ?_
   refine wH rfl ?_;refine jA ?_
   refine AW.condT rfl ?_;refine jA ?_
   refine AW.condT rfl ?_;refine jA ?_
   refine RG.ownN [(0,0)] [(0,0)] (fun q=>m_number vs hsh q) rfl rfl rfl rfl rfl rfl rfl rfl rfl rfl ?_
   refine wH rfl ?_;refine jA ?_
   exact ⟨(p+1,{ st with a:=atoiV (vs.headD []) },vs.tail),⟨⟨hlt,hf,hsh.tl⟩,by show has.length - (p+1)<has.length - p;omega⟩,⟨rO rfl rfl rfl,rO rfl rfl rfl,rO rfl rfl rfl,rO rfl rfl rfl,trivial⟩,⟨.ghost rfl rfl rfl,.same rfl rfl rfl,.same rfl rfl rfl,.same rfl rfl rfl,.obj rfl rfl,trivial⟩⟩
  ·rw [e] at hd hf
   refine RG.opS rfl (op_nextS (id:=129) (l:=has) (p:=p) rfl rfl rfl hlt hd) rfl ?_
   refine wH rfl ?_;refine jA ?_
   refine AW.condT rfl ?_;refine jA ?_
   refine AW.condF rfl ?_;refine jA ?_
   refine AW.condT rfl ?_;refine jA ?_
   refine RG.ownN [(0,0)] [(0,0)] (fun q=>m_number vs hsh q) rfl rfl rfl rfl rfl rfl rfl rfl rfl rfl ?_
   refine wH rfl ?_;refine jA ?_
   exact ⟨(p+1,{ st with b:=atoiV (vs.headD []) },vs.tail),⟨⟨hlt,hf,hsh.tl⟩,by show has.length - (p+1)<has.length - p;omega⟩,⟨rO rfl rfl rfl,rO rfl rfl rfl,rO rfl rfl rfl,rO rfl rfl rfl,trivial⟩,⟨.ghost rfl rfl rfl,.same rfl rfl rfl,.same rfl rfl rfl,.same rfl rfl rfl,.obj rfl rfl,trivial⟩⟩
  ·rw [e] at hd hf
   refine RG.opS rfl (op_nextS (id:=129) (l:=has) (p:=p) rfl rfl rfl hlt hd) rfl ?_
   refine wH rfl ?_;refine jA ?_
   refine AW.condT rfl ?_;refine jA ?_
   refine AW.condF rfl ?_;refine jA ?_
   refine AW.condF rfl ?_;refine jA ?_
   refine AW.condT rfl ?_;refine jA ?_
   refine RG.ownN [(0,0)] [(0,0)] (fun q=>m_head vs hsh q) rfl rfl rfl rfl rfl rfl rfl rfl rfl rfl ?_
   refine wH rfl ?_;refine jA ?_
   exact ⟨(p+1,{ st with head:=⟨puV ((vs.headD []).take 16),puV ((vs.headD []).drop 16)⟩ },vs.tail),⟨⟨hlt,hf,hsh.tl⟩,by show has.length - (p+1)<has.length - p;omega⟩,⟨rO rfl rfl rfl,rO rfl rfl rfl,rO rfl rfl rfl,rO rfl rfl rfl,trivial⟩,⟨.ghost rfl rfl rfl,.same rfl rfl rfl,.same rfl rfl rfl,.same rfl rfl rfl,.obj rfl rfl,trivial⟩⟩
  ·rw [e] at hd hf
   refine RG.opS rfl (op_nextS (id:=129) (l:=has) (p:=p) rfl rfl rfl hlt hd) rfl ?_
   refine wH rfl ?_;refine jA ?_
   refine AW.condT rfl ?_;refine jA ?_
   refine AW.condF rfl ?_;refine jA ?_
   refine AW.condF rfl ?_;refine jA ?_
   refine AW.condF rfl ?_;refine jA ?_
   refine AW.condT rfl ?_;refine jA ?_
   refine RG.ownN [(0,0)] [(0,0)] (fun q=>m_want vs hsh q) rfl rfl rfl rfl rfl rfl rfl rfl rfl rfl ?_
   refine wH rfl ?_;refine jA ?_
   exact ⟨(p+1,{ st with want:=wantV (unhexL (vs.headD [])) },vs.tail),⟨⟨hlt,hf,hsh.tl⟩,by show has.length - (p+1)<has.length - p;omega⟩,⟨rO rfl rfl rfl,rO rfl rfl rfl,rO rfl rfl rfl,rO rfl rfl rfl,trivial⟩,⟨.ghost rfl rfl rfl,.same rfl rfl rfl,.same rfl rfl rfl,.same rfl rfl rfl,.obj rfl rfl,trivial⟩⟩
 ·refine RG.opS rfl (op_nextSe (id:=129) (l:=has) (p:=p) rfl rfl rfl hlt) rfl ?_
  refine wH rfl ?_;refine jA ?_
  refine AW.condF rfl ?_;refine jE ?_;refine jB ?_
  rw [List.drop_eq_nil_of_le (by omega)] at hf
  rw [<- hf]
  refine jA ?_
  exact AW.ret (retMA ty_ok rfl rfl (Rm.aggP rfl rfl) ⟨.ghost rfl rfl rfl,.same rfl rfl rfl,trivial⟩)
end Go.Proofs.YthgbdoofchknhaaGreatDoor.Sm
end
section
namespace Go.Proofs.YthgbdoofchknhaaGreatDoor.Sm
open Go.RowKit
theorem flatMap_le {α:Type} {f:α->List UInt64} {B:Nat}:∀(l:List α),(∀x∈l,(f x).length<=B)->(l.flatMap f).length<=l.length*B
 | [],_=>by simp
 | x::l,h=>by
  have h1:=h x (by simp)
  have h2:=flatMap_le l fun y hy=>h y (by simp [hy])
  rw [List.flatMap_cons,List.length_append,List.length_cons,Nat.add_mul]
  omega
theorem itemsW_le {α:Type} {ok:α->Bool} {f:α->List UInt64} {l:List α} {B:Nat} (hl:fitL ok l=true) (h:∀x,ok x=true->(f x).length<=B):(itemsW f l).length<=1+200*B:=by
 simp only [fitL,Bool.and_eq_true,decide_eq_true_eq,List.all_eq_true] at hl
 have h1:=flatMap_le l fun x hx=>h x (hl.2 x hx)
 have h2:l.length*B<=200*B:=Nat.mul_le_mul_right _ hl.1
 simp only [itemsW,List.length_cons]
 omega
theorem tablesW_le {t:List (List Rl)} (h:tablesFit t=true):(tablesW t).length<=480201:=itemsW_le (B:=2401) h fun x hx=>itemsW_le (B:=12) hx fun _ _=>by simp [Rl.words]
theorem words_le {c:Cfg} (h:c.fit=true):c.words.length<=97000000:=by
 simp only [Cfg.fit,Bool.and_eq_true] at h
 obtain ⟨h1,h2,h3,h4⟩:=h
 have e1:(itemsW portsW c.ports).length<=1+200*1001:=itemsW_le h1 fun x hx=>itemsW_le (B:=5) hx fun _ _=>by simp [Pt.words]
 have e2:(itemsW Pr.words c.peers).length<=1+200*2:=itemsW_le h2 fun _ _=>by simp [Pr.words]
 have e3:(itemsW Wy.words c.ways).length<=1+200*3:=itemsW_le h3 fun _ _=>by simp [Wy.words]
 have e4:(itemsW tablesW c.tables).length<=1+200*480201:=itemsW_le h4 fun x hx=>tablesW_le hx
 simp only [Cfg.words,List.length_append,List.length_cons]
 omega
theorem fit_len8 {c:Cfg} (h:c.fit=true):(sealW c.words).length<=1000000000:=by
 have:=words_le h
 simp only [sealW,List.length_append,enc8_len,putF_len]
 omega
structure SI.Ok (s:SI):Prop where
 a:-9223372036854775808<=s.a/\s.a<=9223372036854775807
 b:-9223372036854775808<=s.b/\s.b<=9223372036854775807
def wdC (s:SI) (acc:Option (List (List UInt8))) (c:UInt8):Option (List (List UInt8)) :=
 acc.bind fun ws =>
  if c=97 then some (ws++[Lib.itoa s.a])
  else if c=98 then some (ws++[Lib.itoa s.b])
  else if c=104 then some (ws++[wideL s.head.hi.toNat++wideL s.head.lo.toNat])
  else if c=119 then (if s.want.fit=true then some (ws++[hexL (sealW s.want.words)]) else none)
  else some ws
def kindAt (n:Int):KE:=(lookK n kindsL).getD (0,[],[])
def wordsW (s:SI):Option (List (List UInt8)):=(kindAt s.kind).2.2.foldl (wdC s) (some [(kindAt s.kind).2.1])
theorem fold_none (s:SI):∀l:List UInt8,l.foldl (wdC s) none=none
 | []=>rfl
 | _::l=>fold_none s l
def sEl (x:List UInt8):List AV:=[.s x]
def wordsR:Option (List (List UInt8))->AV
 | some ws=>.tup [.sl (strEls ws),.b true]
 | none=>.tup [.sl [],.b false]
theorem look_mem {n:Int}:∀{l:List KE} {x:KE},lookK n l=some x->x∈l/\n=x.1
 | [],_,h=>by cases h
 | y::l,x,h=>by
  unfold lookK at h
  split at h
  ·obtain rfl:=Option.some.inj h
   exact ⟨by simp,by assumption⟩
  ·obtain ⟨h1,h2⟩:=look_mem h
   exact ⟨List.mem_cons_of_mem _ h1,h2⟩
theorem kindAt_has (n:Int):∀c∈(kindAt n).2.2,c=97\/c=98\/c=104\/c=119:=by
 have key:∀x∈kindsL,∀c∈x.2.2,c=97\/c=98\/c=104\/c=119:=by decide
 unfold kindAt
 cases hf:lookK n kindsL with
 | none=>exact fun c hc=>absurd hc (by simp)
 | some x=>exact key x (look_mem hf).1
theorem kindAt_len (n:Int):(kindAt n).2.2.length<=3:=by
 have key:∀x∈kindsL,x.2.2.length<=3:=by decide
 unfold kindAt
 cases hf:lookK n kindsL with
 | none=>exact Nat.zero_le _
 | some x=>exact key x (look_mem hf).1
theorem d_words (s:SI) (hs:s.Ok):PDoes Tryz.prog 15 [.agg (siC s)] (wordsR (wordsW s)):=by
 refine PDoes.of_bodyN Tryz.func15 rfl (by kernel_rfl) rfl rfl ?_
 have hasc:=kindAt_has s.kind
 have hlen:=kindAt_len s.kind
 unfold wordsW
 generalize hy:kindAt s.kind=y at *
 refine jB ?_;refine wF ?_;refine wH rfl ?_;refine jB ?_
 refine AW.draws mixed_ok ?_
 refine RG.ownN [] [(7,113)] (fun q=>m_kinds q) rfl rfl rfl rfl rfl rfl rfl rfl rfl rfl ?_
 refine wH rfl ?_
 refine RG.opS rfl (op_lookK (n:=s.kind) (l:=kindsL) y rfl rfl rfl rfl hy) rfl ?_
 refine wH rfl ?_;refine jA ?_
 refine RG.opS rfl (op_rangeS (id:=129) (l:=y.2.2) rfl (by kernel_rfl) rfl) rfl ?_
 refine wH rfl ?_;refine jA ?_
 refine AW.loopL (ι:=Nat × List (List UInt8)) (fun i=>[(1,.own 1 0 0),(5,.row 16 0 0 (i.2.map sEl).length),(19,.own 129 0 0)])
  (fun i=>[(1,⟨0,some (.box 36 (siC s))⟩),(16,⟨0,some (.row 9 1 (i.2.map sEl))⟩),(129,⟨0,some (.obj (.stringIter ⟨y.2.2.toArray⟩ i.1))⟩)])
  (fun i=>i.1<=y.2.2.length/\(y.2.2.drop i.1).foldl (wdC s) (some i.2)=y.2.2.foldl (wdC s) (some [y.2.1])/\i.2.length=i.1+1) (fun i=>y.2.2.length - i.1) (0,[y.2.1]) ⟨Nat.zero_le _,rfl,rfl⟩ ?_ ?_ fun i hi=>?_
 ·exact ⟨rO rfl rfl rfl,rR rfl rfl rfl,rO rfl rfl rfl,trivial⟩
 ·exact ⟨.same rfl rfl rfl,bR rfl rfl,.obj rfl rfl,trivial⟩
 generalize hG:y.2.2.foldl (wdC s) (some [y.2.1])=G
 rw [hG] at hi
 obtain ⟨p,ws⟩:=i
 obtain ⟨hp,hf,hl⟩:=hi
 simp only at hp hf hl
 generalize y.2.2=has at *
 clear hG hy
 refine jB ?_
 refine AW.text ?_
 by_cases hlt:p<has.length
 ·rw [List.drop_eq_getElem_cons hlt,List.foldl_cons] at hf
  have hd:=dec_has hasc hlt
  rcases hasc has[p] (List.getElem_mem hlt) with e | e | e | e
  ·rw [e] at hd hf
   refine RG.opS rfl (op_nextS (id:=129) (l:=has) (p:=p) rfl rfl rfl hlt hd) rfl ?_
   refine wH rfl ?_;refine jA ?_
   refine AW.condT rfl ?_;refine jA ?_;refine AW.condT rfl ?_;refine jA ?_
   refine RG.callS rfl rfl rfl rfl rfl (d_Itoa s.a hs.a.1 hs.a.2) rfl rfl ?_
   refine wH rfl ?_
   refine RG.opS rfl (op_app1W sEl ws (Lib.itoa s.a) (by omega) rfl rfl rfl rfl (tk rfl) rfl (tk rfl) rfl rfl ⟨_,rfl,rfl⟩ rfl rfl) rfl ?_;refine wH rfl ?_;refine jA ?_
   exact ⟨(p+1,ws++[Lib.itoa s.a]),⟨⟨hlt,hf,by rw [List.length_append,hl];rfl⟩,by show has.length - (p+1)<has.length - p;omega⟩,⟨rO rfl rfl rfl,rR rfl rfl rfl,rO rfl rfl rfl,trivial⟩,⟨.same rfl rfl rfl,bR rfl rfl,.obj rfl rfl,trivial⟩⟩
  ·rw [e] at hd hf
   refine RG.opS rfl (op_nextS (id:=129) (l:=has) (p:=p) rfl rfl rfl hlt hd) rfl ?_
   refine wH rfl ?_;refine jA ?_
   refine AW.condT rfl ?_;refine jA ?_;refine AW.condF rfl ?_;refine jA ?_;refine AW.condT rfl ?_;refine jA ?_
   refine RG.callS rfl rfl rfl rfl rfl (d_Itoa s.b hs.b.1 hs.b.2) rfl rfl ?_
   refine wH rfl ?_
   refine RG.opS rfl (op_app1W sEl ws (Lib.itoa s.b) (by omega) rfl rfl rfl rfl (tk rfl) rfl (tk rfl) rfl rfl ⟨_,rfl,rfl⟩ rfl rfl) rfl ?_;refine wH rfl ?_;refine jA ?_
   exact ⟨(p+1,ws++[Lib.itoa s.b]),⟨⟨hlt,hf,by rw [List.length_append,hl];rfl⟩,by show has.length - (p+1)<has.length - p;omega⟩,⟨rO rfl rfl rfl,rR rfl rfl rfl,rO rfl rfl rfl,trivial⟩,⟨.same rfl rfl rfl,bR rfl rfl,.obj rfl rfl,trivial⟩⟩
  ·rw [e] at hd hf
   refine RG.opS rfl (op_nextS (id:=129) (l:=has) (p:=p) rfl rfl rfl hlt hd) rfl ?_
   refine wH rfl ?_;refine jA ?_
   refine AW.condT rfl ?_;refine jA ?_;refine AW.condF rfl ?_;refine jA ?_;refine AW.condF rfl ?_;refine jA ?_;refine AW.condT rfl ?_;refine jA ?_
   refine RG.callS rfl rfl rfl rfl rfl (d_wide s.head.hi) rfl rfl ?_
   refine wH rfl ?_
   refine RG.callS rfl rfl rfl rfl rfl (d_wide s.head.lo) rfl rfl ?_
   refine wH rfl ?_
   refine RG.opS rfl (op_cat rfl rfl rfl (by rw [wideL_len,wideL_len];decide)) rfl ?_
   refine wH rfl ?_
   refine RG.opS rfl (op_app1W sEl ws (wideL s.head.hi.toNat++wideL s.head.lo.toNat) (by omega) rfl rfl rfl rfl (tk rfl) rfl (tk rfl) rfl rfl ⟨_,rfl,rfl⟩ rfl rfl) rfl ?_;refine wH rfl ?_;refine jA ?_
   exact ⟨(p+1,ws++[wideL s.head.hi.toNat++wideL s.head.lo.toNat]),⟨⟨hlt,hf,by rw [List.length_append,hl];rfl⟩,by show has.length - (p+1)<has.length - p;omega⟩,⟨rO rfl rfl rfl,rR rfl rfl rfl,rO rfl rfl rfl,trivial⟩,⟨.same rfl rfl rfl,bR rfl rfl,.obj rfl rfl,trivial⟩⟩
  ·rw [e] at hd hf
   refine RG.opS rfl (op_nextS (id:=129) (l:=has) (p:=p) rfl rfl rfl hlt hd) rfl ?_
   refine wH rfl ?_;refine jA ?_
   refine AW.condT rfl ?_;refine jA ?_;refine AW.condF rfl ?_;refine jA ?_;refine AW.condF rfl ?_;refine jA ?_;refine AW.condF rfl ?_;refine jA ?_;refine AW.condT rfl ?_;refine jA ?_
   by_cases hfit:s.want.fit=true
   ·have hf:(has.drop (p+1)).foldl (wdC s) (some (ws++[hexL (sealW s.want.words)]))=G:=by
     have e2:wdC s (some ws) 119=some (ws++[hexL (sealW s.want.words)]):=by
      show (if s.want.fit=true then _ else _)=_
      rw [if_pos hfit]
     rw [<- e2];exact hf
    have hl8:=fit_len8 hfit
    refine RG.callMS rfl rfl rfl rfl rfl rfl (d_Config_yes s.want hfit) rfl ?_
    refine wH rfl ?_;refine jA ?_;refine AW.condF rfl ?_;refine jA ?_
    refine RG.callS rfl rfl rfl rfl rfl (d_hex (sealW s.want.words) (by omega)) rfl rfl ?_
    refine wH rfl ?_
    refine RG.opS rfl (op_app1W sEl ws (hexL (sealW s.want.words)) (by omega) rfl rfl rfl rfl (tk rfl) rfl (tk rfl) rfl rfl ⟨_,rfl,rfl⟩ rfl rfl) rfl ?_;refine wH rfl ?_;refine jA ?_
    exact ⟨(p+1,ws++[hexL (sealW s.want.words)]),⟨⟨hlt,hf,by rw [List.length_append,hl];rfl⟩,by show has.length - (p+1)<has.length - p;omega⟩,⟨rO rfl rfl rfl,rR rfl rfl rfl,rO rfl rfl rfl,trivial⟩,⟨.same rfl rfl rfl,bR rfl rfl,.obj rfl rfl,trivial⟩⟩
   ·have hG:none=G:=by
     have e2:wdC s (some ws) 119=none:=by
      show (if s.want.fit=true then _ else _)=_
      rw [if_neg hfit]
     rw [e2,fold_none] at hf
     exact hf
    subst hG
    refine RG.callS rfl rfl rfl rfl rfl (d_Config_no s.want (by simpa using hfit)) rfl rfl ?_
    refine wH rfl ?_;refine jA ?_;refine AW.condT rfl ?_;refine jA ?_
    refine AW.ret (retQA ty_ok rfl rfl rfl ?_)
    rfl
 ·refine RG.opS rfl (op_nextSe (id:=129) (l:=has) (p:=p) rfl rfl rfl hlt) rfl ?_
  refine wH rfl ?_;refine jA ?_
  refine AW.condF rfl ?_;refine jE ?_;refine jB ?_
  rw [List.drop_eq_nil_of_le (by omega)] at hf
  rw [<- hf]
  refine jA ?_
  refine AW.ret (retQA ty_ok rfl rfl rfl ?_)
  exact congrArg (fun x=>AV.tup [x,.b true]) (rowAll rfl)
end Go.Proofs.YthgbdoofchknhaaGreatDoor.Sm
end
section
namespace Go.Proofs.YthgbdoofchknhaaGreatDoor.Sm
open Go.RowKit
deriving instance DecidableEq for SI
theorem eq_Hd (a b:Hd):eqA tyT 6 24 (.agg [.u a.hi,.u a.lo]) (.agg [.u b.hi,.u b.lo])=some (decide (a=b)):=by
 show some (decide (a.hi=b.hi) && (decide (a.lo=b.lo) && true))=_
 obtain ⟨ahi,alo⟩:=a
 obtain ⟨bhi,blo⟩:=b
 congr 1
 rw [Bool.eq_iff_iff]
 simp
theorem d_equal (a b:SI) (q:Bool) (hq:decide (a=b)=q):PDoes Tryz.prog 17 [.agg (siC a),.agg (siC b)] (.b q):=by
 refine PDoes.of_bodyN Tryz.func17 rfl (by kernel_rfl) rfl rfl ?_
 refine jB ?_;refine wF ?_;refine wH rfl ?_;refine jB ?_
 refine AW.text ?_
 obtain ⟨a1,a2,a3,a4,a5⟩:=a
 obtain ⟨b1,b2,b3,b4,b5⟩:=b
 simp only [SI.mk.injEq] at hq
 by_cases h1:a1=b1
 rotate_left
 ·rw [decide_eq_false (fun h=>h1 h.1)] at hq
  subst hq
  refine RG.runO ty_ok 0 [(9,.b false)] 400 rfl ⟨congrArg AV.b (decide_eq_false h1),trivial⟩ ?_
  refine jB ?_
  refine AW.ret (retQA ty_ok rfl rfl rfl ?_)
  rfl
 by_cases h2:a2=b2
 rotate_left
 ·rw [decide_eq_false (fun h=>h2 h.2.1)] at hq
  subst hq
  refine RG.runO ty_ok 0 [(9,.b true),(15,.b false)] 400 rfl ⟨congrArg AV.b (decide_eq_false h2),congrArg AV.b (decide_eq_true h1),trivial⟩ ?_
  refine jB ?_
  refine AW.ret (retQA ty_ok rfl rfl rfl ?_)
  rfl
 by_cases h3:a3=b3
 rotate_left
 ·rw [decide_eq_false (fun h=>h3 h.2.2.1)] at hq
  subst hq
  refine RG.runO ty_ok 0 [(9,.b true),(15,.b true),(22,.b false)] 400 rfl ⟨congrArg AV.b (decide_eq_false h3),congrArg AV.b (decide_eq_true h2),congrArg AV.b (decide_eq_true h1),trivial⟩ ?_
  refine jB ?_
  refine AW.ret (retQA ty_ok rfl rfl rfl ?_)
  rfl
 refine RG.runO ty_ok 0 [(9,.b true),(15,.b true),(22,.b true)] 400 rfl ⟨congrArg AV.b (decide_eq_true h3),congrArg AV.b (decide_eq_true h2),congrArg AV.b (decide_eq_true h1),trivial⟩ ?_
 by_cases h4:a4=b4
 rotate_left
 ·rw [decide_eq_false (fun h=>h4 h.2.2.2.1)] at hq
  subst hq
  refine RG.opS rfl (op_eqG rfl ty_ok (by kernel_rfl) (by kernel_rfl) rfl rfl ((eq_Hd a4 b4).trans (congrArg some (decide_eq_false h4))) rfl) rfl ?_
  refine wH rfl ?_
  refine jB ?_
  refine AW.ret (retQA ty_ok rfl rfl rfl ?_)
  rfl
 refine RG.opS rfl (op_eqG rfl ty_ok (by kernel_rfl) (by kernel_rfl) rfl rfl ((eq_Hd a4 b4).trans (congrArg some (decide_eq_true h4))) rfl) rfl ?_
 refine wH rfl ?_
 have hq:decide (a5=b5)=q:=by rw [<- hq];exact decide_eq_decide.2 ⟨fun h=>⟨h1,h2,h3,h4,h⟩,fun h=>h.2.2.2.2⟩
 refine RG.callS rfl rfl rfl rfl rfl (d_cSame a5 b5 q hq) rfl rfl ?_;refine wH rfl ?_;refine jA ?_
 refine AW.ret (retQA ty_ok rfl rfl rfl ?_)
 rfl
theorem d_equalL (a b:SI) (q:Bool) (hq:decide (a=b)=q):PDoes Tryz.prog 12 [.agg (siC a),.agg (siC b)] (.b q):=by
 refine PDoes.of_bodyN Tryz.func12 rfl (by kernel_rfl) rfl rfl ?_
 refine jB ?_;refine wF ?_;refine wH rfl ?_;refine jB ?_
 refine AW.text ?_
 obtain ⟨a1,a2,a3,a4,a5⟩:=a
 obtain ⟨b1,b2,b3,b4,b5⟩:=b
 simp only [SI.mk.injEq] at hq
 by_cases h1:a1=b1
 rotate_left
 ·rw [decide_eq_false (fun h=>h1 h.1)] at hq
  subst hq
  refine RG.runO ty_ok 0 [(9,.b false)] 400 rfl ⟨congrArg AV.b (decide_eq_false h1),trivial⟩ ?_
  refine jB ?_
  refine AW.ret (retQA ty_ok rfl rfl rfl ?_)
  rfl
 by_cases h2:a2=b2
 rotate_left
 ·rw [decide_eq_false (fun h=>h2 h.2.1)] at hq
  subst hq
  refine RG.runO ty_ok 0 [(9,.b true),(15,.b false)] 400 rfl ⟨congrArg AV.b (decide_eq_false h2),congrArg AV.b (decide_eq_true h1),trivial⟩ ?_
  refine jB ?_
  refine AW.ret (retQA ty_ok rfl rfl rfl ?_)
  rfl
 by_cases h3:a3=b3
 rotate_left
 ·rw [decide_eq_false (fun h=>h3 h.2.2.1)] at hq
  subst hq
  refine RG.runO ty_ok 0 [(9,.b true),(15,.b true),(22,.b false)] 400 rfl ⟨congrArg AV.b (decide_eq_false h3),congrArg AV.b (decide_eq_true h2),congrArg AV.b (decide_eq_true h1),trivial⟩ ?_
  refine jB ?_
  refine AW.ret (retQA ty_ok rfl rfl rfl ?_)
  rfl
 refine RG.runO ty_ok 0 [(9,.b true),(15,.b true),(22,.b true)] 400 rfl ⟨congrArg AV.b (decide_eq_true h3),congrArg AV.b (decide_eq_true h2),congrArg AV.b (decide_eq_true h1),trivial⟩ ?_
 by_cases h4:a4=b4
 rotate_left
 ·rw [decide_eq_false (fun h=>h4 h.2.2.2.1)] at hq
  subst hq
  refine RG.opS rfl (op_eqG rfl ty_ok (by kernel_rfl) (by kernel_rfl) rfl rfl ((eq_Hd a4 b4).trans (congrArg some (decide_eq_false h4))) rfl) rfl ?_
  refine wH rfl ?_
  refine jB ?_
  refine AW.ret (retQA ty_ok rfl rfl rfl ?_)
  rfl
 refine RG.opS rfl (op_eqG rfl ty_ok (by kernel_rfl) (by kernel_rfl) rfl rfl ((eq_Hd a4 b4).trans (congrArg some (decide_eq_true h4))) rfl) rfl ?_
 refine wH rfl ?_
 have hq:decide (a5=b5)=q:=by rw [<- hq];exact decide_eq_decide.2 ⟨fun h=>⟨h1,h2,h3,h4,h⟩,fun h=>h.2.2.2.2⟩
 refine RG.callS rfl rfl rfl rfl rfl (d_Same a5 b5 q (by rw [<- hq];simp)) rfl rfl ?_;refine wH rfl ?_;refine jA ?_
 refine AW.ret (retQA ty_ok rfl rfl rfl ?_)
 rfl
end Go.Proofs.YthgbdoofchknhaaGreatDoor.Sm
end
section
namespace Go.Proofs.YthgbdoofchknhaaGreatDoor.Sm
open Go.RowKit
theorem sh_snoc {ws:List (List UInt8)} {w:List UInt8} (h:Sh ws) (hw:w.length<=70000000000):Sh (ws++[w]):=fun x hx=>by
 rcases List.mem_append.1 hx with hx | hx
 ·exact h x hx
 ·obtain rfl:=List.mem_singleton.1 hx
  exact hw
theorem fold_words {s:SI} (hs:s.Ok):∀(l:List UInt8) (acc ws:List (List UInt8)),l.foldl (wdC s) (some acc)=some ws->acc≠[]->Sh acc->ws≠[]/\Sh ws/\ws.length<=acc.length+l.length
 | [],acc,ws,h,h0,h1=>by
  obtain rfl:acc=ws:=by simpa using h
  exact ⟨h0,h1,by omega⟩
 | c::l,acc,ws,h,h0,h1=>by
  rw [List.foldl_cons] at h
  have key:∀w:List UInt8,w.length<=70000000000->l.foldl (wdC s) (some (acc++[w]))=some ws->ws≠[]/\Sh ws/\ws.length<=acc.length+(c::l).length:=fun w hw h=>by
   obtain ⟨a,b,d⟩:=fold_words hs l _ ws h (by simp) (sh_snoc h1 hw)
   simp only [List.length_append,List.length_singleton] at d
   exact ⟨a,b,by simp only [List.length_cons];omega⟩
  have same:l.foldl (wdC s) (some acc)=some ws->ws≠[]/\Sh ws/\ws.length<=acc.length+(c::l).length:=fun h=>by
   obtain ⟨a,b,d⟩:=fold_words hs l _ ws h h0 h1
   exact ⟨a,b,by simp only [List.length_cons];omega⟩
  simp only [wdC,Option.bind_some] at h
  split at h
  ·exact key _ (Nat.le_trans (Lib.itoa_length_le s.a hs.a.1 hs.a.2) (by decide)) h
  ·split at h
   ·exact key _ (Nat.le_trans (Lib.itoa_length_le s.b hs.b.1 hs.b.2) (by decide)) h
   ·split at h
    ·exact key _ (by rw [List.length_append,wideL_len,wideL_len];decide) h
    ·split at h
     ·split at h
      ·rename_i hf
       exact key _ (by rw [hexL_len];have:=fit_len8 hf;omega) h
      ·rw [fold_none] at h
       cases h
     ·exact same h
theorem kindAt_word (n:Int):(kindAt n).2.1.length<=10:=by
 have key:∀x∈kindsL,x.2.1.length<=10:=by decide
 unfold kindAt
 cases hf:lookK n kindsL with
 | none=>exact Nat.zero_le _
 | some x=>exact key x (look_mem hf).1
theorem words_ok {s:SI} (hs:s.Ok) {ws:List (List UInt8)} (h:wordsW s=some ws):ws≠[]/\Sh ws/\ws.length<=4:=by
  have h1:=kindAt_word s.kind
  have h2:=kindAt_len s.kind
  obtain ⟨a,b,c⟩:=fold_words hs _ _ ws h (by simp) (fun w hw=>by
    obtain rfl:=List.mem_singleton.1 hw
    omega)
  exact ⟨a,b,by simp only [List.length_singleton] at c;omega⟩
theorem lens_le:∀{ws:List (List UInt8)},Sh ws->Lib.lens ws<=ws.length*70000000000
 | [],_=>Nat.le_refl 0
 | x::r,h=>by
  have h1:=lens_le (ws:=r) fun w hw=>h w (by simp [hw])
  have h2:=h x (by simp)
  have e:Lib.lens (x::r)=x.length+Lib.lens r:=by simp [Lib.lens]
  rw [e,List.length_cons]
  omega
theorem join_le {ws:List (List UInt8)} (h0:ws≠[]) (h:Sh ws) (h4:ws.length<=4):(Lib.join ws [32]).length<=300000000000:=by
 cases ws with
 | nil=>exact absurd rfl h0
 | cons x r =>
  rw [Lib.join_length]
  have:=lens_le h
  have e:[(32:UInt8)].length=1:=rfl
  rw [e,Nat.one_mul]
  rw [List.length_cons] at this h4
  omega
noncomputable def lineW (s:SI):Option (List UInt8) :=
 (wordsW s).bind fun ws=>if (lookK s.kind kindsL).isSome=true/\(stepW ws).1=s then some (Lib.join ws [32]) else none
def lineR:Option (List UInt8)->AV
 | some l=>.tup [.s l,.i .i64 0]
 | none=>.tup [.s [],.i .i64 1]
theorem d_Line (s:SI) (hs:s.Ok):PDoes Tryz.prog 8 [.agg (siC s)] (lineR (lineW s)):=by
 refine PDoes.of_bodyN Tryz.func8 rfl (by kernel_rfl) rfl rfl ?_
 unfold lineW
 cases hw:wordsW s with
 | none =>
  have h1:=d_words s hs
  rw [hw] at h1
  refine jA ?_
  refine RG.callMS rfl rfl rfl rfl rfl rfl h1 rfl ?_
  refine wH rfl ?_;refine jB ?_
  refine AW.draws mixed_ok ?_
  refine RG.ownN [] [(7,113)] (fun q=>m_kinds q) rfl rfl rfl rfl rfl rfl rfl rfl rfl rfl ?_
  refine wH rfl ?_
  refine RG.opS rfl (op_lookK2 (n:=s.kind) (l:=kindsL) (kindAt s.kind) (lookK s.kind kindsL).isSome rfl rfl rfl rfl rfl rfl) rfl ?_
  refine wH rfl ?_;refine jA ?_
  refine AW.condT rfl ?_;refine jA ?_
  refine AW.ret (retQA ty_ok rfl rfl rfl ?_)
  rfl
 | some ws =>
  have h1:=d_words s hs
  rw [hw] at h1
  obtain ⟨h0,hsh,h4⟩:=words_ok hs hw
  show AW _ _ _ (retQ _ _ (lineR (if (lookK s.kind kindsL).isSome=true/\(stepW ws).1=s then some (Lib.join ws [32]) else none))) _
  refine jA ?_
  refine RG.callMS rfl rfl rfl rfl rfl rfl h1 rfl ?_
  refine wH rfl ?_;refine jB ?_
  refine AW.draws mixed_ok ?_
  refine RG.ownN [] [(7,113)] (fun q=>m_kinds q) rfl rfl rfl rfl rfl rfl rfl rfl rfl rfl ?_
  refine wH rfl ?_
  cases hq:(lookK s.kind kindsL).isSome with
  | false =>
   refine RG.opS rfl (op_lookK2 (n:=s.kind) (l:=kindsL) (kindAt s.kind) false rfl rfl rfl rfl rfl hq) rfl ?_
   refine wH rfl ?_;refine jA ?_
   refine AW.condT rfl ?_;refine jA ?_
   refine AW.ret (retQA ty_ok rfl rfl rfl ?_)
   rfl
  | true =>
   refine RG.opS rfl (op_lookK2 (n:=s.kind) (l:=kindsL) (kindAt s.kind) true rfl rfl rfl rfl rfl hq) rfl ?_
   refine wH rfl ?_;refine jA ?_
   refine RG.ownN [(23,0)] [(0,23)] (fun q=>m_step ws hsh q) rfl rfl rfl rfl rfl rfl rfl rfl rfl rfl ?_
   refine wH rfl ?_
   by_cases he:(stepW ws).1=s
   ·rw [if_pos ⟨rfl,he⟩]
    refine RG.callS rfl rfl rfl rfl rfl (d_equal (stepW ws).1 s true (decide_eq_true he)) rfl rfl ?_;refine wH rfl ?_;refine jA ?_
    refine AW.condF rfl ?_;refine jA ?_
    refine RG.callS rfl rfl rfl rfl rfl (d_Join ws [32] h0 (by omega) (by have:=join_le h0 hsh h4;omega)) rfl rfl ?_;refine wH rfl ?_;refine jA ?_
    refine AW.ret (retQA ty_ok rfl rfl rfl ?_)
    rfl
   ·rw [if_neg (fun h=>he h.2)]
    refine RG.callS rfl rfl rfl rfl rfl (d_equal (stepW ws).1 s false (decide_eq_false he)) rfl rfl ?_;refine wH rfl ?_;refine jA ?_
    refine AW.condT rfl ?_;refine jA ?_
    refine AW.ret (retQA ty_ok rfl rfl rfl ?_)
    rfl
end Go.Proofs.YthgbdoofchknhaaGreatDoor.Sm
end
