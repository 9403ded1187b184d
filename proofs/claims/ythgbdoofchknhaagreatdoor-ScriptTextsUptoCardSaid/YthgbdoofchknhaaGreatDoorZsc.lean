/- Contracts of the program's functions over data, and the plain laws that they meet (part 3). No condition. -/
import Derived.Test.YthgbdoofchknhaaGreatDoorZsb
import Derived.Shelf.Strings.Builder1
import Derived.Shelf.Strings.Builder2
import Derived.Shelf.Strings.OnBuilder
import Derived.Shelf.Small.Strs
import Derived.Shelf.Strings.BuilderF
import Derived.Shelf.Strings.BuilderK
import Derived.Shelf.Utf8.RuneCount
import Derived.Shelf.Strings.Builder2Cap
import Derived.Shelf.Strconv.Atoi
import Derived.Shelf.Strconv.Itoa0
import Derived.Shelf.Strconv.Itoa1
import Derived.Shelf.LaysM
import Derived.Shelf.Strconv.Itoa2
import Derived.Shelf.Strconv.Itoa3
import Derived.Shelf.Strconv.AtoiErrFast
import Derived.Shelf.Strconv.ParseIntEmpty
import Derived.Shelf.Strconv.AtoiFail
import Derived.Shelf.Strconv.Clone
import Derived.Shelf.Strconv.SyntaxError
import Derived.Shelf.LaysC
import Derived.Shelf.Strconv.ToError
import Derived.Shelf.Strconv.AtoiErr
import Derived.Shelf.Strconv.ErrVar
import Derived.Shelf.Strconv.Lower
import Derived.Shelf.Strconv.ParseUint10
import Derived.Shelf.Strconv.ParseUint10Empty
import Derived.Shelf.Strconv.ParseUint10Any
import Derived.Shelf.Strconv.ParseInt10
import Derived.Shelf.Strconv.AtoiLong
import Derived.Shelf.Strconv.AtoiInnerAll
import Derived.Shelf.Strconv.RangeError
import Derived.Shelf.Strconv.ToErrorRange
import Derived.Shelf.Strconv.AtoiAll
import Derived.Shelf.Strconv.ErrVarAll
import Derived.Shelf.Strconv.ParseUintEmpty
import Derived.Shelf.Strconv.ParseUint10b64
import Derived.Shelf.Strconv.ParseUint10b32
import Derived.Shelf.Strconv.ParseUint10b16
import Derived.Shelf.Strconv.ParseUint10b8
import Derived.Shelf.Strconv.ParseUint10At
import Derived.Shelf.Strconv.ParseInt10At64
import Derived.Shelf.Strconv.ParseInt10At32
import Derived.Shelf.Strconv.ParseInt10At16
import Derived.Shelf.Strconv.ParseInt10At8
import Derived.Shelf.Strconv.ParseInt10All
import Derived.Ground.MpProg
import Derived.Shelf.Pu.ParseUintPublic10
import Derived.Shelf.Pu.ErrVarParseUint
import Derived.Shelf.Strings.Search1
import Derived.Shelf.Strings.Search2
import Derived.Shelf.Strings.Search3
import Derived.Shelf.Strings.Cut
import Derived.Shelf.Strings.Count
import Derived.Shelf.Strings.Shaped
import Derived.Shelf.Strings.Prefix
import Derived.Shelf.Strings.Split
import Derived.Shelf.Strings.SplitShaped
import Derived.Shelf.Unicode.Decode
import Derived.Shelf.Strings.RuneCount
import Derived.Shelf.Strings.Explode
import Derived.Shelf.Bits.Mul64
import Derived.Shelf.Strings.Repeat
import Derived.Shelf.Unicode.DecodeSlow
import Derived.Shelf.Unicode.DecodeAny
import Derived.Shelf.Strings.BuilderCap
import Derived.Shelf.Bytes.SlSearch0
import Derived.Ground.SlbCloneProg
import Derived.Shelf.Bytes.SlClone
import Derived.Shelf.Bytes.SlEqualAll
import Derived.Shelf.Bytes.Small
import Derived.Test.YthgbdoofchknhaaGreatDoorProg
import Derived.WalkKit
import Derived.WalkSpells
import Derived.WalkLawsBesides
import Derived.Lib.Hide
import Derived.Deep.RegionHeld3
import Derived.Maps.AppendAt
import Derived.KernelRfl
import Derived.Lib.AppendStr
import Derived.Lib.FrozenHead2
import Derived.Lib.OthersKept
import Derived.Lib.LaidTab
import Derived.Lib.ItoaNum
import Derived.Lib.SmallJoins
import Derived.Orders
import Derived.LoopTactic
import Derived.Laws.CopyRow
import Derived.Laws.Cells
import Derived.OrdersIn
import Derived.Laws.Externs
import Derived.TacticsIn
import Derived.RangeFuncLeaves
import Derived.RangeFuncRecord
import Derived.Great.BuildSlice
import Derived.Deep.Slices
import Derived.Deep.Fields
import Derived.ChangeSame
import Derived.ProofKit
import Derived.OpenShut
import Derived.SizedLaws
import Derived.Lib.SplitLaws
import Derived.Lib.AtoiAllMem
import Derived.Lib.Join
import Derived.Lib.AtoiErrMem
import Derived.Deep.Cut
import Derived.Laws.StructEq
import Derived.Deep.Quiet
import Derived.Deep.QuietTactic
import Derived.Deep.CutRange
import Derived.Deep.CutBlock
set_option linter.unusedVariables false
set_option linter.unusedSimpArgs false
set_option maxRecDepth 100000
set_option maxHeartbeats 4000000
section
namespace Go.Proofs.YthgbdoofchknhaaGreatDoor
open Go.RowKit
theorem alloc_size (w:World) (o:Obj):(w.alloc o).heap.size=w.heap.size+1:=Array.size_push _
theorem New.mono {w w':World} {X:Nat->Prop} (h:New w X) (hs:w.heap.size<=w'.heap.size):New w' X:=fun b hb=>h b (Nat.le_trans hs hb)
theorem WirAt.box {w:World} {X:Nat->Prop} {l:List UInt8} {lg:Bool} {q:Nat} (h:WirAt w X l lg q) (hX:New w X) (o:Obj) :
  WirAt (w.alloc o) (fun b=>X b/\b≠w.heap.size) l lg q/\New (w.alloc o) (fun b=>X b/\b≠w.heap.size):=by
 refine ⟨(h.clip.mono fun b hb=>⟨hb.1,Nat.ne_of_lt hb.2⟩).kp ((Kp.refl No w).alloc o) (fun _ _=>id),fun b hb=>?_⟩
 rw [alloc_size] at hb
 exact ⟨hX b (by omega),by omega⟩
theorem Kp.unbox {w w1:World} {X:Nat->Prop} {o:Obj} (h:Kp (fun b=>X b/\b≠w.heap.size) (w.alloc o) w1):Kp X w w1:=((Kp.refl X w).alloc o).trans (h.mono fun _ _ h=>h.1)
theorem WirAt.unbox {w1:World} {X:Nat->Prop} {l:List UInt8} {lg:Bool} {q n:Nat} (h:WirAt w1 (fun b=>X b/\b≠n) l lg q):WirAt w1 X l lg q:=h.mono fun _ h=>h.1
theorem New.or {w:World} {X:Nat->Prop} (h:New w X) {n:Nat} (hn:w.heap.size<=n) {q:Nat} (hq:q<w.heap.size):∀b,Or (fun b=>X b/\b≠q) n b->X b/\b≠q:=fun b hb=>hb.elim id fun hb=>⟨h b (Nat.le_trans hn hb),fun e=>by have:n<=b:=hb;omega⟩
theorem wir_nums_lit (w:World) (X:Nat->Prop) (l:List UInt8) (lg:Bool) (q:Nat) (ns:List UInt64) (cs:Array Value) (m z:Nat) (hz:z=w.heap.size) (hcs:cs.toList=ns.map fun u=>.int .i64 (i64of u)) (hm:m=ns.length) (h:WirAt w X l lg q) (hX:New w X)
  (hb:l.length+8*ns.length<=140737488355328) (hl:ns.length<=9223372036854775807) :
  Calls Tryz.prog 65 #[.pointer (some ⟨q,0,none⟩),.slice (some ⟨z,0,none⟩) m m] (w.alloc (.cells cs 3)) fun e w'=>e = .returned (.tuple #[])/\WirAt w' X (l++enc8 ns) lg q/\Kp X w w':=by
 obtain ⟨h1,h2⟩:=h.box hX (.cells cs 3)
 subst hm
 subst hz
 have hs:SliceAt i64w (w.alloc (.cells cs 3)) (fun b=>b=w.heap.size) ns (.slice (some ⟨w.heap.size,0,none⟩) ns.length ns.length):=by
  refine ⟨_,ns.length,rfl,Nat.le_refl _,by unfold maxLen;omega,fun _=>⟨w.heap.size,0,rfl,rfl,by rw [alloc_size];omega,cs.toList,?_,fun j u hu=>?_⟩⟩
  ·rw [hcs]
   have:∀l:List UInt64,All2 (i64w.rel (w.alloc (.cells cs 3)) (fun b=>b=w.heap.size)) l (l.map fun u=>.int .i64 (i64of u)):=by
    intro l
    induction l with
    | nil=>rfl
    | cons x l ih=>exact ⟨[.int .i64 (i64of x)],_,rfl,rfl,ih⟩
   exact this ns
  ·rw [Nat.zero_add,cell_of_row _ w.heap.size j _ _ _ (heap_alloc_new w _)]
   rw [<- hu]
   exact (Array.getElem?_toList ..).symm
 exact (wir_nums _ _ _ l lg q _ ns h1 h2 hs (fun b hb h=>h.2 hb) hb).mono fun _ _ ⟨e,a,b⟩=>⟨e,a.unbox,b.unbox⟩
set_option maxHeartbeats 400000 in
theorem wir_head (w:World) (X:Nat->Prop) (l:List UInt8) (lg:Bool) (q:Nat) (x:Hd) (h:WirAt w X l lg q) (hX:New w X) (hb:l.length+16<=140737488355328) :
  Calls Tryz.prog 160 #[.pointer (some ⟨q,0,none⟩),.agg #[.int .u64 x.hi.toNat,.int .u64 x.lo.toNat]] w fun e w'=>e = .returned (.tuple #[])/\WirAt w' X (l++enc8 x.words) lg q/\Kp X w w':=by
 obtain ⟨h1,h2⟩:=h.box hX (.cells #[.int .u64 x.hi.toNat,.int .u64 x.lo.toNat] 24)
 obtain ⟨wx,hwx⟩:∃wx,wx=w.alloc (.cells #[.int .u64 x.hi.toNat,.int .u64 x.lo.toNat] 24):=⟨_,rfl⟩
 have hax:=heap_alloc_new w (.cells #[.int .u64 x.hi.toNat,.int .u64 x.lo.toNat] 24)
 rw [<- hwx] at hax h1 h2
 have Hwx:=Lib.hid hwx
 obtain ⟨p,hq,hXq,hw⟩:=h1
 have hc0:wx.cell? ⟨q,0,none⟩=some (.pointer (some ⟨p,0,none⟩)):=cell_of_row wx q 0 _ _ _ hq
 have hc2:wx.cell? ⟨w.heap.size,1,none⟩=some (.int .u64 x.lo.toNat):=cell_of_row wx _ 1 _ _ _ hax
 have hc1:wx.cell? ⟨w.heap.size,0,none⟩=some (.int .u64 x.hi.toNat):=cell_of_row wx _ 0 _ _ _ hax
 have Hq:=Lib.hid hq
 have Hw:=Lib.hid hw
 have H2:=Lib.hid h2
 have Hb:=Lib.hid hb
 have hqlt:q<wx.heap.size:=(Array.getElem?_eq_some_iff.1 hq).1
 clear h hX hwx hax hq hw h2 hb
 have n0:¬((X q/\q≠w.heap.size)/\q≠q):=fun h=>h.2 rfl
 have n1:¬((X w.heap.size/\w.heap.size≠w.heap.size)/\w.heap.size≠q):=fun h=>h.1.2 rfl
 go_enter Tryz.func160,Tryz.ntmps160
 go_wp2_with fail
 rw [<- Hwx.out]
 refine wp_region_noPanic ?_
 refine wp_region_held_drew (S:=fun w'=>Hid (Kp (fun b=>(X b/\b≠w.heap.size)/\b≠q) wx w')) (by kernel_rfl) (Lib.hid (Kp.refl _ _).drew) (fun hHeld=>?_)
 refine wpAnyH_take (i:=0) (oi:=?_) (v:=?_) ?_ (by kernel_rfl) (by kernel_rfl) (by kernel_rfl) (fun _ _ _ h=>h) (Or.inl ⟨?_,fun w hSw=>?_⟩) hHeld ?_
 rotate_left 2
 ·(simp only [List.getElem?_toArray,List.getElem?_cons_zero];rfl)
 ·rfl
 ·(clear hSw;go_simp;try (with_reducible rfl))
 simp only [Act.put,List.setIfInBounds_toArray,List.set_cons_zero,List.set_cons_succ]
 refine wpAnyH_take (i:=1) (oi:=?_) (v:=?_) ?_ (by kernel_rfl) (by kernel_rfl) (by kernel_rfl) (fun _ _ _ h=>h) (Or.inl ⟨?_,fun w hSw=>?_⟩) hHeld ?_
 rotate_left 2
 ·(simp only [List.getElem?_toArray,List.getElem?_cons_succ,List.getElem?_cons_zero];rfl)
 ·rfl
 ·(clear hSw;go_simp;try (with_reducible rfl))
 simp only [Act.put,List.setIfInBounds_toArray,List.set_cons_zero,List.set_cons_succ]
 refine wpAnyH_take (i:=2) (oi:=?_) (v:=?_) ?_ (by kernel_rfl) (by kernel_rfl) (by kernel_rfl) (fun _ _ _ h=>h) (Or.inl ⟨?_,fun w hSw=>?_⟩) hHeld ?_
 rotate_left 2
 ·(simp only [List.getElem?_toArray,List.getElem?_cons_succ,List.getElem?_cons_zero];rfl)
 ·rfl
 ·(clear hSw;go_simp;try (with_reducible rfl))
 simp only [Act.put,List.setIfInBounds_toArray,List.set_cons_zero,List.set_cons_succ]
 refine wpAnyH_take (i:=3) (oi:=?_) (v:=?_) ?_ (by kernel_rfl) (by kernel_rfl) (by kernel_rfl) (fun _ _ _ h=>h) (Or.inl ⟨?_,fun w hSw=>?_⟩) hHeld ?_
 rotate_left 2
 ·(simp only [List.getElem?_toArray,List.getElem?_cons_succ,List.getElem?_cons_zero];rfl)
 ·rfl
 ·(have l0:=(Hid.out hSw).cell hc0 n0;have l1:=(Hid.out hSw).cell hc1 n1;have l2:=(Hid.out hSw).cell hc2 n1;clear hSw;go_simp;try (with_reducible rfl))
 simp only [Act.put,List.setIfInBounds_toArray,List.set_cons_zero,List.set_cons_succ]
 refine wpAnyH_take (i:=4) (oi:=?_) (v:=?_) ?_ (by kernel_rfl) (by kernel_rfl) (by kernel_rfl) (fun _ _ _ h=>h) (Or.inl ⟨?_,fun w hSw=>?_⟩) hHeld ?_
 rotate_left 2
 ·(simp only [List.getElem?_toArray,List.getElem?_cons_succ,List.getElem?_cons_zero];rfl)
 ·rfl
 ·(clear hSw;go_simp;try (with_reducible rfl))
 simp only [Act.put,List.setIfInBounds_toArray,List.set_cons_zero,List.set_cons_succ]
 refine wpAnyH_take (i:=5) (oi:=?_) (v:=?_) ?_ (by kernel_rfl) (by kernel_rfl) (by kernel_rfl) (fun _ _ _ h=>h) (Or.inl ⟨?_,fun w hSw=>?_⟩) hHeld ?_
 rotate_left 2
 ·(simp only [List.getElem?_toArray,List.getElem?_cons_succ,List.getElem?_cons_zero];rfl)
 ·rfl
 ·(have l0:=(Hid.out hSw).cell hc0 n0;have l1:=(Hid.out hSw).cell hc1 n1;have l2:=(Hid.out hSw).cell hc2 n1;clear hSw;go_simp;try (with_reducible rfl))
 simp only [Act.put,List.setIfInBounds_toArray,List.set_cons_zero,List.set_cons_succ]
 refine wpAnyH_take (i:=7) (oi:=?_) (v:=?_) ?_ (by kernel_rfl) (by kernel_rfl) (by kernel_rfl) (fun _ _ _ h=>h) (Or.inl ⟨?_,fun w hSw=>?_⟩) hHeld ?_
 rotate_left 2
 ·(simp only [List.getElem?_toArray,List.getElem?_cons_succ,List.getElem?_cons_zero];rfl)
 ·rfl
 ·(clear hSw;go_simp;try (with_reducible rfl))
 simp only [Act.put,List.setIfInBounds_toArray,List.set_cons_zero,List.set_cons_succ]
 refine wpAnyH_take (i:=8) (oi:=?_) (v:=?_) ?_ (by kernel_rfl) (by kernel_rfl) (by kernel_rfl) (fun _ _ _ h=>h) (Or.inl ⟨?_,fun w hSw=>?_⟩) hHeld ?_
 rotate_left 2
 ·(simp only [List.getElem?_toArray,List.getElem?_cons_succ,List.getElem?_cons_zero];rfl)
 ·rfl
 ·(have l0:=(Hid.out hSw).cell hc0 n0;have l1:=(Hid.out hSw).cell hc1 n1;have l2:=(Hid.out hSw).cell hc2 n1;clear hSw;go_simp;try (with_reducible rfl))
 simp only [Act.put,List.setIfInBounds_toArray,List.set_cons_zero,List.set_cons_succ]
 refine wpAnyH_ready (rs:=[6]) (by kernel_rfl) (by simp) ?_
 refine AllReadyH.cons (o:=?_) ?_ (fun K hK=>?_) AllReadyH.nil
 rotate_left
 ·(simp only [List.getElem?_toArray,List.getElem?_cons_succ,List.getElem?_cons_zero];rfl)
 go_simp
 refine (Writer_Wide _ _ _ _ x.hi (Hw.out.kp (Kp.refl No _).drew (fun _ _=>id)) (by have:=Hb.out;omega)).mono ?_
 rintro e w1 ⟨rfl,h1,hk1⟩
 have H1:=Lib.hid (h1.mono (H2.out.or (Nat.le_refl _) hqlt))
 have hS:=Lib.hid ((Kp.refl (fun b=>(X b/\b≠w.heap.size)/\b≠q) wx).drew.trans hk1)
 clear h1 hk1
 refine hK.out _ _ hS (fun hHeld=>?_)
 clear hK K
 (try simp only [Act.put,List.setIfInBounds_toArray,List.set_cons_zero,List.set_cons_succ])
 refine wpAnyH_ready (rs:=[9]) (by kernel_rfl) (by simp) ?_
 refine AllReadyH.cons (o:=?_) ?_ (fun K hK=>?_) AllReadyH.nil
 rotate_left
 ·(simp only [List.getElem?_toArray,List.getElem?_cons_succ,List.getElem?_cons_zero];rfl)
 go_simp
 refine (Writer_Wide _ _ _ _ x.lo H1.out (by have:=Hb.out;rw [List.length_append,putF_len];omega)).mono ?_
 rintro e w2 ⟨rfl,h2,hk2⟩
 have hS:=Lib.hid ((Hid.out hHeld).trans hk2)
 have H3:=Lib.hid (WirAt.put Hq.out hXq H2.out (h2.mono fun b hb=>.inl (H2.out.or (Hid.out hHeld).size hqlt b hb)) (Hid.out hS))
 clear h2 hk2
 refine hK.out _ _ hS (fun hHeld=>?_)
 clear hK K
 (try simp only [Act.put,List.setIfInBounds_toArray,List.set_cons_zero,List.set_cons_succ])
 refine wpAnyH_done (by kernel_rfl) (NoPanic.normal ?_) _
 clear hHeld
 go_wp2_with fail
 go_end0
 refine ⟨rfl,?_,by have:=H3.out.2;rw [Hwx.out] at this;exact this.unbox⟩
 have:=H3.out.1.unbox
 rw [List.append_assoc] at this
 exact this
set_option maxHeartbeats 400000 in
theorem wir_cube (w:World) (X:Nat->Prop) (l:List UInt8) (lg:Bool) (q:Nat) (x:Cb) (h:WirAt w X l lg q) (hX:New w X) (hb:l.length+32<=140737488355328) :
  Calls Tryz.prog 154 #[.pointer (some ⟨q,0,none⟩),.agg #[.int .u64 x.value.hi.toNat,.int .u64 x.value.lo.toNat,.int .u64 x.care.hi.toNat,.int .u64 x.care.lo.toNat]] w fun e w'=>e = .returned (.tuple #[])/\WirAt w' X (l++enc8 x.words) lg q/\Kp X w w':=by
 obtain ⟨h1,h2⟩:=h.box hX (.cells #[.int .u64 x.value.hi.toNat,.int .u64 x.value.lo.toNat,.int .u64 x.care.hi.toNat,.int .u64 x.care.lo.toNat] 112)
 obtain ⟨wx,hwx⟩:∃wx,wx=w.alloc (.cells #[.int .u64 x.value.hi.toNat,.int .u64 x.value.lo.toNat,.int .u64 x.care.hi.toNat,.int .u64 x.care.lo.toNat] 112):=⟨_,rfl⟩
 have hax:=heap_alloc_new w (.cells #[.int .u64 x.value.hi.toNat,.int .u64 x.value.lo.toNat,.int .u64 x.care.hi.toNat,.int .u64 x.care.lo.toNat] 112)
 rw [<- hwx] at hax h1 h2
 have Hwx:=Lib.hid hwx
 have H1:=Lib.hid h1
 have H2:=Lib.hid h2
 have Hb:=Lib.hid hb
 have Hax:=Lib.hid hax
 clear h hX hwx hax h1 h2 hb
 go_enter Tryz.func154,Tryz.ntmps154
 go_wp2_with fail
 rw [<- Hwx.out]
 refine (wir_head _ _ _ _ _ x.value H1.out H2.out (by have:=Hb.out;omega)).mono ?_
 rintro e w1 ⟨rfl,h1,hk1⟩
 have hax1:=hk1.heap Hax.out (fun h=>h.2 rfl)
 have hc2:w1.cell? ⟨w.heap.size,2,none⟩=some (.int .u64 x.care.hi.toNat):=cell_of_row w1 _ 2 _ _ _ hax1
 have hc3:w1.cell? ⟨w.heap.size,3,none⟩=some (.int .u64 x.care.lo.toNat):=cell_of_row w1 _ 3 _ _ _ hax1
 have H3:=Lib.hid h1
 have Hk1:=Lib.hid hk1
 clear h1 hk1 hax1
 go_wp2_with fail
 refine (wir_head _ _ _ _ _ x.care H3.out (H2.out.kp Hk1.out) (by have:=Hb.out;rw [List.length_append,enc8_len];simp [Hd.words];omega)).mono ?_
 rintro e w2 ⟨rfl,h1,hk2⟩
 have H4:=Lib.hid h1
 have Hk2:=Lib.hid (Hk1.out.trans hk2)
 clear h1 hk2
 go_wp2_with fail
 go_end0
 refine ⟨rfl,?_,by have:=Hk2.out;rw [Hwx.out] at this;exact this.unbox⟩
 have:=H4.out.unbox
 rw [List.append_assoc,<- enc8_append] at this
 exact this
set_option maxHeartbeats 400000 in
theorem wir_port (w:World) (X:Nat->Prop) (l:List UInt8) (lg:Bool) (q:Nat) (x:Pt) (h:WirAt w X l lg q) (hX:New w X) (hb:l.length+40<=140737488355328) :
  Calls Tryz.prog 98 #[.pointer (some ⟨q,0,none⟩),.agg #[.int .i64 (i64of x.kind),.int .i64 (i64of x.tenant),.int .i64 (i64of x.peer),.int .i64 (i64of x.at_),.int .i64 (i64of x.cost)]] w fun e w'=>e = .returned (.tuple #[])/\WirAt w' X (l++enc8 x.words) lg q/\Kp X w w':=by
 obtain ⟨h1,h2⟩:=h.box hX (.cells #[.int .i64 (i64of x.kind),.int .i64 (i64of x.tenant),.int .i64 (i64of x.peer),.int .i64 (i64of x.at_),.int .i64 (i64of x.cost)] 107)
 obtain ⟨wx,hwx⟩:∃wx,wx=w.alloc (.cells #[.int .i64 (i64of x.kind),.int .i64 (i64of x.tenant),.int .i64 (i64of x.peer),.int .i64 (i64of x.at_),.int .i64 (i64of x.cost)] 107):=⟨_,rfl⟩
 rw [<- hwx] at h1 h2
 have hsz:w.heap.size+1=wx.heap.size:=by rw [hwx,alloc_size]
 have Hwx:=Lib.hid hwx
 have Hsz:=Lib.hid hsz
 have H1:=Lib.hid h1
 have H2:=Lib.hid h2
 have Hb:=Lib.hid hb
 clear h hX hwx h1 h2 hb hsz
 go_enter Tryz.func98,Tryz.ntmps98
 go_wp2_with fail
 rw [<- Hwx.out]
 refine (wir_nums_lit wx _ _ _ _ [x.kind,x.tenant,x.peer,x.at_,x.cost] _ 5 _ Hsz.out rfl rfl H1.out H2.out (by have:=Hb.out;simp;omega) (by simp)).mono ?_
 rintro e w1 ⟨rfl,h1,hk1⟩
 have H3:=Lib.hid h1
 have Hk1:=Lib.hid hk1
 clear h1 hk1
 go_wp2_with fail
 go_end0
 exact ⟨rfl,H3.out.unbox,by have:=Hk1.out;rw [Hwx.out] at this;exact this.unbox⟩
set_option maxHeartbeats 400000 in
theorem wir_peer (w:World) (X:Nat->Prop) (l:List UInt8) (lg:Bool) (q:Nat) (x:Pr) (h:WirAt w X l lg q) (hX:New w X) (hb:l.length+16<=140737488355328) :
  Calls Tryz.prog 67 #[.pointer (some ⟨q,0,none⟩),.agg #[.int .i64 (i64of x.a),.int .i64 (i64of x.b)]] w fun e w'=>e = .returned (.tuple #[])/\WirAt w' X (l++enc8 x.words) lg q/\Kp X w w':=by
 obtain ⟨h1,h2⟩:=h.box hX (.cells #[.int .i64 (i64of x.a),.int .i64 (i64of x.b)] 96)
 obtain ⟨wx,hwx⟩:∃wx,wx=w.alloc (.cells #[.int .i64 (i64of x.a),.int .i64 (i64of x.b)] 96):=⟨_,rfl⟩
 rw [<- hwx] at h1 h2
 have hsz:w.heap.size+1=wx.heap.size:=by rw [hwx,alloc_size]
 have Hwx:=Lib.hid hwx
 have Hsz:=Lib.hid hsz
 have H1:=Lib.hid h1
 have H2:=Lib.hid h2
 have Hb:=Lib.hid hb
 clear h hX hwx h1 h2 hb hsz
 go_enter Tryz.func67,Tryz.ntmps67
 go_wp2_with fail
 rw [<- Hwx.out]
 refine (wir_nums_lit wx _ _ _ _ [x.a,x.b] _ 2 _ Hsz.out rfl rfl H1.out H2.out (by have:=Hb.out;simp;omega) (by simp)).mono ?_
 rintro e w1 ⟨rfl,h1,hk1⟩
 have H3:=Lib.hid h1
 have Hk1:=Lib.hid hk1
 clear h1 hk1
 go_wp2_with fail
 go_end0
 exact ⟨rfl,H3.out.unbox,by have:=Hk1.out;rw [Hwx.out] at this;exact this.unbox⟩
set_option maxHeartbeats 400000 in
theorem wir_way (w:World) (X:Nat->Prop) (l:List UInt8) (lg:Bool) (q:Nat) (x:Wy) (h:WirAt w X l lg q) (hX:New w X) (hb:l.length+24<=140737488355328) :
  Calls Tryz.prog 69 #[.pointer (some ⟨q,0,none⟩),.agg #[.int .i64 (i64of x.fro),.int .i64 (i64of x.to),.int .i64 (i64of x.via)]] w fun e w'=>e = .returned (.tuple #[])/\WirAt w' X (l++enc8 x.words) lg q/\Kp X w w':=by
 obtain ⟨h1,h2⟩:=h.box hX (.cells #[.int .i64 (i64of x.fro),.int .i64 (i64of x.to),.int .i64 (i64of x.via)] 98)
 obtain ⟨wx,hwx⟩:∃wx,wx=w.alloc (.cells #[.int .i64 (i64of x.fro),.int .i64 (i64of x.to),.int .i64 (i64of x.via)] 98):=⟨_,rfl⟩
 rw [<- hwx] at h1 h2
 have hsz:w.heap.size+1=wx.heap.size:=by rw [hwx,alloc_size]
 have Hwx:=Lib.hid hwx
 have Hsz:=Lib.hid hsz
 have H1:=Lib.hid h1
 have H2:=Lib.hid h2
 have Hb:=Lib.hid hb
 clear h hX hwx h1 h2 hb hsz
 go_enter Tryz.func69,Tryz.ntmps69
 go_wp2_with fail
 rw [<- Hwx.out]
 refine (wir_nums_lit wx _ _ _ _ [x.fro,x.to,x.via] _ 3 _ Hsz.out rfl rfl H1.out H2.out (by have:=Hb.out;simp;omega) (by simp)).mono ?_
 rintro e w1 ⟨rfl,h1,hk1⟩
 have H3:=Lib.hid h1
 have Hk1:=Lib.hid hk1
 clear h1 hk1
 go_wp2_with fail
 go_end0
 exact ⟨rfl,H3.out.unbox,by have:=Hk1.out;rw [Hwx.out] at this;exact this.unbox⟩
def Rl.cells (x:Rl):List Value:=[.int .i64 (i64of x.prio),.int .u64 x.mat.value.hi.toNat,.int .u64 x.mat.value.lo.toNat,.int .u64 x.mat.care.hi.toNat,.int .u64 x.mat.care.lo.toNat,.int .i64 (i64of x.act.kind),.int .i64 (i64of x.act.port),.int .i64 (i64of x.act.table),.int .u64 x.act.set.value.hi.toNat,.int .u64 x.act.set.value.lo.toNat,.int .u64 x.act.set.care.hi.toNat,.int .u64 x.act.set.care.lo.toNat]
set_option maxHeartbeats 1000000 in
theorem wir_rule (w:World) (X:Nat->Prop) (l:List UInt8) (lg:Bool) (q:Nat) (x:Rl) (h:WirAt w X l lg q) (hX:New w X) (hb:l.length+96<=140737488355328) :
  Calls Tryz.prog 136 #[.pointer (some ⟨q,0,none⟩),.agg #[.int .i64 (i64of x.prio),.int .u64 x.mat.value.hi.toNat,.int .u64 x.mat.value.lo.toNat,.int .u64 x.mat.care.hi.toNat,.int .u64 x.mat.care.lo.toNat,.int .i64 (i64of x.act.kind),.int .i64 (i64of x.act.port),.int .i64 (i64of x.act.table),.int .u64 x.act.set.value.hi.toNat,.int .u64 x.act.set.value.lo.toNat,.int .u64 x.act.set.care.hi.toNat,.int .u64 x.act.set.care.lo.toNat]] w fun e w'=>e = .returned (.tuple #[])/\WirAt w' X (l++enc8 x.words) lg q/\Kp X w w':=by
 obtain ⟨h1,h2⟩:=h.box hX (.cells #[.int .i64 (i64of x.prio),.int .u64 x.mat.value.hi.toNat,.int .u64 x.mat.value.lo.toNat,.int .u64 x.mat.care.hi.toNat,.int .u64 x.mat.care.lo.toNat,.int .i64 (i64of x.act.kind),.int .i64 (i64of x.act.port),.int .i64 (i64of x.act.table),.int .u64 x.act.set.value.hi.toNat,.int .u64 x.act.set.value.lo.toNat,.int .u64 x.act.set.care.hi.toNat,.int .u64 x.act.set.care.lo.toNat] 116)
 obtain ⟨wx,hwx⟩:∃wx,wx=w.alloc (.cells #[.int .i64 (i64of x.prio),.int .u64 x.mat.value.hi.toNat,.int .u64 x.mat.value.lo.toNat,.int .u64 x.mat.care.hi.toNat,.int .u64 x.mat.care.lo.toNat,.int .i64 (i64of x.act.kind),.int .i64 (i64of x.act.port),.int .i64 (i64of x.act.table),.int .u64 x.act.set.value.hi.toNat,.int .u64 x.act.set.value.lo.toNat,.int .u64 x.act.set.care.hi.toNat,.int .u64 x.act.set.care.lo.toNat] 116):=⟨_,rfl⟩
 have hax:=heap_alloc_new w (.cells #[.int .i64 (i64of x.prio),.int .u64 x.mat.value.hi.toNat,.int .u64 x.mat.value.lo.toNat,.int .u64 x.mat.care.hi.toNat,.int .u64 x.mat.care.lo.toNat,.int .i64 (i64of x.act.kind),.int .i64 (i64of x.act.port),.int .i64 (i64of x.act.table),.int .u64 x.act.set.value.hi.toNat,.int .u64 x.act.set.value.lo.toNat,.int .u64 x.act.set.care.hi.toNat,.int .u64 x.act.set.care.lo.toNat] 116)
 rw [<- hwx] at hax h1 h2
 have hsz:w.heap.size+1=wx.heap.size:=by rw [hwx,alloc_size]
 have Hwx:=Lib.hid hwx
 have Hsz:=Lib.hid hsz
 have H1:=Lib.hid h1
 have H2:=Lib.hid h2
 have Hb:=Lib.hid hb
 have Hax:=Lib.hid hax
 clear h hX hwx h1 h2 hb hsz hax
 go_enter Tryz.func136,Tryz.ntmps136
 go_wp2_with fail
 rw [<- Hwx.out]
 refine (wir_nums_lit wx _ _ _ _ [x.prio] _ 1 _ Hsz.out rfl rfl H1.out H2.out (by have:=Hb.out;simp;omega) (by simp)).mono ?_
 rintro e w1 ⟨rfl,h1,hk1⟩
 have hax1:=hk1.heap Hax.out (fun h=>h.2 rfl)
 have c1:w1.cell? ⟨w.heap.size,1,none⟩=some (.int .u64 x.mat.value.hi.toNat):=cell_of_row w1 _ 1 _ _ _ hax1
 have c2:w1.cell? ⟨w.heap.size,2,none⟩=some (.int .u64 x.mat.value.lo.toNat):=cell_of_row w1 _ 2 _ _ _ hax1
 have c3:w1.cell? ⟨w.heap.size,3,none⟩=some (.int .u64 x.mat.care.hi.toNat):=cell_of_row w1 _ 3 _ _ _ hax1
 have c4:w1.cell? ⟨w.heap.size,4,none⟩=some (.int .u64 x.mat.care.lo.toNat):=cell_of_row w1 _ 4 _ _ _ hax1
 have H3:=Lib.hid h1
 have Hk1:=Lib.hid hk1
 have Hn1:=Lib.hid (H2.out.kp hk1)
 clear h1 hk1 hax1
 go_wp2_with fail
 refine (wir_cube _ _ _ _ _ x.mat H3.out Hn1.out (by have:=Hb.out;rw [List.length_append,enc8_len];simp;omega)).mono ?_
 rintro e w2 ⟨rfl,h1,hk2⟩
 clear c1 c2 c3 c4
 have hax2:=(Hk1.out.trans hk2).heap Hax.out (fun h=>h.2 rfl)
 have c5:w2.cell? ⟨w.heap.size,5,none⟩=some (.int .i64 (i64of x.act.kind)):=cell_of_row w2 _ 5 _ _ _ hax2
 have c6:w2.cell? ⟨w.heap.size,6,none⟩=some (.int .i64 (i64of x.act.port)):=cell_of_row w2 _ 6 _ _ _ hax2
 have c7:w2.cell? ⟨w.heap.size,7,none⟩=some (.int .i64 (i64of x.act.table)):=cell_of_row w2 _ 7 _ _ _ hax2
 have H4:=Lib.hid h1
 have Hk2:=Lib.hid (Hk1.out.trans hk2)
 have Hn2:=Lib.hid (Hn1.out.kp hk2)
 clear h1 hk2 hax2
 go_wp2_with fail
 refine (wir_nums_lit w2 _ _ _ _ [x.act.kind,x.act.port,x.act.table] _ 3 _ rfl rfl rfl H4.out Hn2.out (by have:=Hb.out;rw [List.length_append,List.length_append,enc8_len,enc8_len];simp [Cb.words];omega) (by simp)).mono ?_
 rintro e w3 ⟨rfl,h1,hk3⟩
 clear c5 c6 c7
 have hax3:=(Hk2.out.trans hk3).heap Hax.out (fun h=>h.2 rfl)
 have c8:w3.cell? ⟨w.heap.size,8,none⟩=some (.int .u64 x.act.set.value.hi.toNat):=cell_of_row w3 _ 8 _ _ _ hax3
 have c9:w3.cell? ⟨w.heap.size,9,none⟩=some (.int .u64 x.act.set.value.lo.toNat):=cell_of_row w3 _ 9 _ _ _ hax3
 have c10:w3.cell? ⟨w.heap.size,10,none⟩=some (.int .u64 x.act.set.care.hi.toNat):=cell_of_row w3 _ 10 _ _ _ hax3
 have c11:w3.cell? ⟨w.heap.size,11,none⟩=some (.int .u64 x.act.set.care.lo.toNat):=cell_of_row w3 _ 11 _ _ _ hax3
 have H5:=Lib.hid h1
 have Hk3:=Lib.hid (Hk2.out.trans hk3)
 have Hn3:=Lib.hid (Hn2.out.kp hk3)
 clear h1 hk3 hax3
 go_wp2_with fail
 refine (wir_cube _ _ _ _ _ x.act.set H5.out Hn3.out (by have:=Hb.out;rw [List.length_append,List.length_append,List.length_append,enc8_len,enc8_len,enc8_len];simp [Cb.words];omega)).mono ?_
 rintro e w4 ⟨rfl,h1,hk4⟩
 have H6:=Lib.hid h1
 have Hk4:=Lib.hid (Hk3.out.trans hk4)
 clear h1 hk4
 go_wp2_with fail
 go_end0
 refine ⟨rfl,?_,by have:=Hk4.out;rw [Hwx.out] at this;exact this.unbox⟩
 have:=H6.out.unbox
 rw [List.append_assoc,List.append_assoc,List.append_assoc,<- enc8_append,<- enc8_append,<- enc8_append,<- List.append_assoc,<- List.append_assoc] at this
 exact this
end Go.Proofs.YthgbdoofchknhaaGreatDoor
end
section
namespace Go.Proofs.YthgbdoofchknhaaGreatDoor
open Go.RowKit
theorem frz_of_row (w:World) (g o:Nat) (cs:Array Value) (t:TypeId) (h:w.heap[g]?=some (.cells cs t (0,0))):w.frozen? ⟨g,o,none⟩=false:=by simp [World.frozen?,h]
def Two (q p:Nat):Nat->Prop:=fun b=>b=q\/b=p
def RirAt (w:World) (X:Nat->Prop) (s:RS) (q p:Nat):Prop :=
 w.heap[q]?=some (.cells #[.pointer (some ⟨p,0,none⟩),.bool s.2] 191 (0,0))/\X q/\(∀b,X b->b<w.heap.size)/\ReaderAt w (fun b=>X b/\b≠q) s.1 p
theorem RirAt.kp {w w':World} {X S:Nat->Prop} {s:RS} {q p:Nat} (h:RirAt w X s q p) (hk:Kp S w w') (hd:∀b,X b->¬S b):RirAt w' X s q p:=by
 obtain ⟨h1,h2,h3,h4⟩:=h
 exact ⟨hk.heap h1 (hd q h2),h2,fun b hb=>Nat.lt_of_lt_of_le (h3 b hb) hk.size,h4.kp hk fun b hb=>hd b hb.1⟩
theorem RirAt.new {w w':World} {X:Nat->Prop} {s:RS} {q p:Nat} (h:RirAt w X s q p) (hk:Kp (From w.heap.size) w w'):RirAt w' X s q p :=
 h.kp hk fun b hb hf=>absurd (h.2.2.1 b hb) (by unfold From at hf;omega)
theorem RirAt.lt {w:World} {X:Nat->Prop} {s:RS} {q p:Nat} (h:RirAt w X s q p):q<w.heap.size/\p<w.heap.size/\p≠q :=
 ⟨h.2.2.1 q h.2.1,h.2.2.1 p h.2.2.2.1.1,h.2.2.2.1.2⟩
theorem RirAt.step {w w1:World} {X:Nat->Prop} {s:RS} {r:Rd} {q p:Nat} (h:RirAt w X s q p) (h1:ReaderAt w1 (fun b=>X b/\b≠q) r p) (hk:Kp (fun b=>b=p) w w1):RirAt w1 X (r,s.2) q p:=by
 obtain ⟨a,b,c,d⟩:=h
 exact ⟨hk.heap a (fun e=>d.1.2 e.symm),b,fun b hb=>Nat.lt_of_lt_of_le (c b hb) hk.size,h1⟩
theorem Kp.two {w w1:World} {q p:Nat} (hk:Kp (fun b=>b=p) w w1):Kp (Two q p) w w1:=hk.mono fun _ _ h=>.inr h
theorem Kp.reads {S:Nat->Prop} {w w':World} (h:Kp S w w') (b:Nat) (hb:¬S b) (hlt:b<w.heap.size) :
  (∀o,w'.cell? ⟨b,o,none⟩=w.cell? ⟨b,o,none⟩)/\(∀o,w'.frozen? ⟨b,o,none⟩=w.frozen? ⟨b,o,none⟩)/\b<w'.heap.size :=
 ⟨fun _=>World.cell?_of_block (h.block b hlt hb),fun _=>by simp only [World.frozen?,h.block b hlt hb],Nat.lt_of_lt_of_le hlt h.size⟩
theorem from_le {B b:Nat} (h:B<=b):From B b:=h
theorem Kp.unfresh {S:Nat->Prop} {w w':World} (h:Kp (Or S w.heap.size) w w'):Kp S w w':=h.mono fun k hk hf=>hf.elim id fun hf=>absurd hk (Nat.not_lt.2 hf)
theorem RirAt.off {w:World} {X:Nat->Prop} {s:RS} {q p:Nat} (h:RirAt w X s q p):∀b,X b->¬From w.heap.size b:=fun b hb hf=>absurd (h.2.2.1 b hb) (by unfold From at hf;omega)
theorem RirAt.c0 {w:World} {X:Nat->Prop} {s:RS} {q p:Nat} (h:RirAt w X s q p):w.cell? ⟨q,0,none⟩=some (.pointer (some ⟨p,0,none⟩)):=cell_of_row w q 0 _ _ _ h.1
theorem RirAt.c1 {w:World} {X:Nat->Prop} {s:RS} {q p:Nat} (h:RirAt w X s q p):w.cell? ⟨q,1,none⟩=some (.bool s.2):=cell_of_row w q 1 _ _ _ h.1
theorem RirAt.fz {w:World} {X:Nat->Prop} {s:RS} {q p:Nat} (h:RirAt w X s q p) (i:Nat):w.frozen? ⟨q,i,none⟩=false:=by simp [World.frozen?,h.1]
theorem Kp.fr {S:Nat->Prop} {B:Nat} {w w':World} (h:Kp (From B) w w'):Kp (Or S B) w w':=h.mono fun _ _ h=>.inr h
theorem Kp.setRow {S:Nat->Prop} {a w:World} (h:Kp S a w) {g:Nat} (hg:S g) (cs:Array Value):Kp S a (w.setRow g cs) :=
 ⟨h.os,h.tape,h.output,by simpa [World.setRow] using h.size,fun k hk hn=>(setRow_other w g k cs (fun e=>hn (e ▸ hg))).trans (h.block k hk hn)⟩
theorem Kp.orb {S:Nat->Prop} {B b:Nat} {w w':World} (h:Kp (fun g=>S g\/g=b) w w') (hb:B<=b):Kp (Or S B) w w':=h.mono fun _ _ h=>h.imp id fun e=>by rw [e];exact hb
theorem Kp.orl {S:Nat->Prop} {B:Nat} {w w':World} (h:Kp S w w'):Kp (Or S B) w w':=h.mono fun _ _ h=>.inl h
def RS.left (s:RS):Nat:=s.1.left
theorem Wide_r (w:World) (X:Nat->Prop) (s:RS) (q p:Nat) (h:RirAt w X s q p) :
  Calls Tryz.prog 157 #[.pointer (some ⟨p,0,none⟩)] w fun e w'=>e = .returned (.int .u64 s.word.1.toNat)/\RirAt w' X s.word.2 q p/\Kp (Two q p) w w' :=
 (Reader_Wide w _ _ _ h.2.2.2).mono fun _ _ ⟨e,h1,hk⟩=>⟨e,h.step h1 hk,hk.two⟩
theorem Num_r (w:World) (X:Nat->Prop) (s:RS) (q p:Nat) (h:RirAt w X s q p) :
  Calls Tryz.prog 148 #[.pointer (some ⟨p,0,none⟩)] w fun e w'=>e = .returned (.int .i64 (i64of s.word.1))/\RirAt w' X s.word.2 q p/\Kp (Two q p) w w' :=
 (Reader_Num w _ _ _ h.2.2.2).mono fun _ _ ⟨e,h1,hk⟩=>⟨e,h.step h1 hk,hk.two⟩
theorem Left_r (w:World) (X:Nat->Prop) (s:RS) (q p:Nat) (h:RirAt w X s q p) :
  Calls Tryz.prog 149 #[.pointer (some ⟨p,0,none⟩)] w fun e w'=>e = .returned (.int .i64 s.left)/\w=w':=Reader_Left w _ _ _ h.2.2.2
set_option maxHeartbeats 400000 in
theorem rir_head (w:World) (X:Nat->Prop) (s:RS) (q p:Nat) (h:RirAt w X s q p) :
  Calls Tryz.prog 163 #[.pointer (some ⟨q,0,none⟩)] w fun e w'=>e = .returned (.agg #[.int .u64 (rdHd s).1.hi.toNat,.int .u64 (rdHd s).1.lo.toNat])/\RirAt w' X (rdHd s).2 q p/\Kp (Two q p) w w':=by
 obtain ⟨hq,hp,hpq⟩:=h.lt
 have h0:=h.c0
 have H:=Lib.hid h
 have HX:=Lib.hid h.off
 clear h hpq
 go_enter Tryz.func163,Tryz.ntmps163
 go_wp2_with fail
 refine (Wide_r _ X s q p (H.out.kp (S:=From w.heap.size) (by repeat (first | with_reducible exact Kp.refl _ _ | with_reducible refine Kp.alloc ?_ _ | with_reducible refine Kp.drew ?_ | with_reducible refine Kp.drewN ?_ _ | with_reducible refine Kp.setRow ?_ (from_le (by first | exact Nat.le_refl _ | omega)) _ | with_reducible refine Kp.setCell ?_ (Or.inl (from_le (by first | (dsimp only;omega) | omega | (simp;omega) | (simp;done)))) _)) HX.out)).mono ?_
 rintro e w1 ⟨rfl,h1,hk1⟩
 have Hk1:=Lib.hid ((Kp.fr (S:=Two q p) (show Kp (From w.heap.size) w _ from (by repeat (first | with_reducible exact Kp.refl _ _ | with_reducible refine Kp.alloc ?_ _ | with_reducible refine Kp.drew ?_ | with_reducible refine Kp.drewN ?_ _ | with_reducible refine Kp.setRow ?_ (from_le (by first | exact Nat.le_refl _ | omega)) _ | with_reducible refine Kp.setCell ?_ (Or.inl (from_le (by first | (dsimp only;omega) | omega | (simp;omega) | (simp;done)))) _)))).trans hk1.orl)
 obtain ⟨c1,f1,z1⟩:=hk1.reads w.heap.size (by unfold Two;omega) (by simp)
 have h0:=h1.c0
 have zq:=h1.lt.1
 have H1:=Lib.hid h1
 clear h1 hk1
 go_wp2_with fail
 refine (Wide_r _ X s.word.2 q p (H1.out.kp (S:=From w.heap.size) (by repeat (first | with_reducible exact Kp.refl _ _ | with_reducible refine Kp.alloc ?_ _ | with_reducible refine Kp.drew ?_ | with_reducible refine Kp.drewN ?_ _ | with_reducible refine Kp.setRow ?_ (from_le (by first | exact Nat.le_refl _ | omega)) _ | with_reducible refine Kp.setCell ?_ (Or.inl (from_le (by first | (dsimp only;omega) | omega | (simp;omega) | (simp;done)))) _)) HX.out)).mono ?_
 rintro e w2 ⟨rfl,h1,hk2⟩
 have Hk2:=Lib.hid ((Hk1.out.trans (Kp.fr (S:=Two q p) (show Kp (From w.heap.size) w1 _ from (by repeat (first | with_reducible exact Kp.refl _ _ | with_reducible refine Kp.alloc ?_ _ | with_reducible refine Kp.drew ?_ | with_reducible refine Kp.drewN ?_ _ | with_reducible refine Kp.setRow ?_ (from_le (by first | exact Nat.le_refl _ | omega)) _ | with_reducible refine Kp.setCell ?_ (Or.inl (from_le (by first | (dsimp only;omega) | omega | (simp;omega) | (simp;done)))) _))))).trans hk2.orl)
 obtain ⟨c2,f2,z2⟩:=hk2.reads w.heap.size (by unfold Two;omega) (by simp;omega)
 obtain ⟨c3,f3,z3⟩:=hk2.reads w1.heap.size (by unfold Two;omega) (by simp)
 have H2:=Lib.hid h1
 clear h1 hk2
 go_wp2_with fail
 refine bodyPost_ret (v:=.agg #[.int .u64 s.word.1.toNat,.int .u64 s.word.2.word.1.toNat]) ?_ rfl ⟨rfl,H2.out.kp (S:=From w.heap.size) (by repeat (first | with_reducible exact Kp.refl _ _ | with_reducible refine Kp.alloc ?_ _ | with_reducible refine Kp.drew ?_ | with_reducible refine Kp.drewN ?_ _ | with_reducible refine Kp.setRow ?_ (from_le (by first | exact Nat.le_refl _ | omega)) _ | with_reducible refine Kp.setCell ?_ (Or.inl (from_le (by first | (dsimp only;omega) | omega | (simp;omega) | (simp;done)))) _)) HX.out,(Hk2.out.trans (Kp.fr (S:=Two q p) (show Kp (From w.heap.size) w2 _ from (by repeat (first | with_reducible exact Kp.refl _ _ | with_reducible refine Kp.alloc ?_ _ | with_reducible refine Kp.drew ?_ | with_reducible refine Kp.drewN ?_ _ | with_reducible refine Kp.setRow ?_ (from_le (by first | exact Nat.le_refl _ | omega)) _ | with_reducible refine Kp.setCell ?_ (Or.inl (from_le (by first | (dsimp only;omega) | omega | (simp;omega) | (simp;done)))) _))))).unfresh⟩
 have n1:¬w1.heap.size=w.heap.size:=by omega
 simp [results,Tryz.results163,go_sem,c2,c3,c1,z1,n1]
end Go.Proofs.YthgbdoofchknhaaGreatDoor
end
section
namespace Go.Proofs.YthgbdoofchknhaaGreatDoor
open Go.RowKit
def plR:Rep (Nat × Nat):=Rep.plain 1 (fun x=>[.pointer (some ⟨x.1,x.2,none⟩)]) (fun _=>rfl) (by simp [Value.oneCell'])
theorem SliceAt.get_pl {w:World} {F:Nat->Prop} {xs:List (Nat × Nat)} {A:Option Addr} {n c k:Nat} {x:Nat × Nat} (h:SliceAt plR w F xs (.slice A n c)) (hk:xs[k]?=some x) :
  ∃b off,A=some ⟨b,off,none⟩/\w.cell? ⟨b,off+k,none⟩=some (.pointer (some ⟨x.1,x.2,none⟩)):=by
 obtain ⟨b,off,cs,rfl,_,_,hr,hc⟩:=h.get hk
 have hr':cs=[.pointer (some ⟨x.1,x.2,none⟩)]:=hr
 subst hr'
 refine ⟨b,off,rfl,?_⟩
 have h:=hc 0 _ rfl
 rwa [show k*plR.n+0=k from Nat.mul_one k] at h
def setW (cs:Array Value) (l:List (Nat × UInt64)):Array Value:=l.foldl (fun cs x=>cs.setIfInBounds x.1 (.int .i64 (i64of x.2))) cs
theorem setW_snoc (cs:Array Value) (l:List (Nat × UInt64)) (x:Nat × UInt64):setW cs (l++[x])=(setW cs l).setIfInBounds x.1 (.int .i64 (i64of x.2)):=by simp [setW]
theorem setW_size (cs:Array Value):∀(l:List (Nat × UInt64)),(setW cs l).size=cs.size:=by
 intro l
 induction l generalizing cs with
 | nil=>rfl
 | cons x l ih=>rw [show setW cs (x::l)=setW (cs.setIfInBounds x.1 (.int .i64 (i64of x.2))) l from rfl,ih,Array.size_setIfInBounds]
theorem rdN_len {α:Type} (item:RS->α × RS):∀(k:Nat) (s:RS),(rdN item k s).1.length=k
 | 0,_=>rfl
 | k+1,s=>by rw [rdN,List.length_append,rdN_len item k s];rfl
theorem zip_snoc {α β:Type}:∀(l:List α) (m:List β) (o:α) (x:β),l[m.length]?=some o->l.zip (m++[x])=l.zip m++[(o,x)]
 | [],m,o,x,h=>by simp at h
 | a::l,[],o,x,h=>by simp at h;subst h;simp
 | a::l,b::m,o,x,h=>by
  have:=zip_snoc l m o x (by simpa using h)
  simp [this]
set_option maxHeartbeats 400000 in
theorem rir_nums (w : World) (X F : Nat -> Prop) (s : RS) (q p b : Nat) (offs : List Nat) (cs : Array Value) (t : TypeId) (v : Value) (h : RirAt w X s q p) (hv : SliceAt plR w F (offs.map fun o => (b, o)) v) (hF : ∀ g, F g -> g < w.heap.size /\ ¬ X g /\ g ≠ b)
    (hb:w.heap[b]?=some (.cells cs t (0,0))) (hXb:¬X b) (ho:∀o∈offs,o<cs.size) :
    Calls Tryz.prog 127 #[.pointer (some ⟨q,0,none⟩),v] w fun e w'=>e = .returned (.tuple #[])/\RirAt w' X (rdN RS.word offs.length s).2 q p/\w'.heap[b]?=some (.cells (setW cs (offs.zip (rdN RS.word offs.length s).1)) t (0,0))/\Kp (fun g=>Two q p g\/g=b) w w':=by
  obtain ⟨A,n,c,rfl,Hn,hc1,hc2⟩:=hv.form'
  rw [List.length_map] at Hn
  obtain ⟨hq,hp,hpq⟩:=h.lt
  have hblt:b<w.heap.size:=(Array.getElem?_eq_some_iff.1 hb).1
  have Hv:=Lib.hid hv
  have H:=Lib.hid h
  have HF:=Lib.hid hF
  have Hb:=Lib.hid hb
  have HXb:=Lib.hid hXb
  have Ho:=Lib.hid ho
  clear hv h hF hb hXb ho hpq
  go_enter Tryz.func127,Tryz.ntmps127
  go_wp2_with fail
  go_loopw [8] (fun i wr=>∃k:Nat,k<=n/\i = .int .i64 k/\RirAt wr X (rdN RS.word k s).2 q p/\wr.heap[b]?=some (.cells (setW cs (offs.zip (rdN RS.word k s).1)) t (0,0))/\Kp (fun g=>Two q p g\/g=b) w wr) (fun i _=>n - (intOf i).toNat)
  case atStart=>exact ⟨0,Nat.zero_le _,rfl,H.out,by simpa [rdN,setW] using Hb.out,Kp.refl _ _⟩
  case round =>
    obtain ⟨k,hk,rfl,hr,hbk,hkp⟩:=hrel
    have q3:(0:Int)<=(k:Int):=by omega
    by_cases hlt:k<n
    · obtain ⟨o,hx⟩:∃o,offs[k]?=some o:=⟨_,List.getElem?_eq_getElem (by rw [<- Hn.out];exact hlt)⟩
      have hnF:∀g,F g->¬(Two q p g\/g=b):=by
        intro g hg hh
        obtain ⟨_,g1,g2⟩:=HF.out g hg
        rcases hh with (rfl | rfl) | rfl
        · exact g1 hr.2.1
        · exact g1 hr.2.2.2.1.1
        · exact g2 rfl
      obtain ⟨z,off,rfl,hc⟩:=(Hv.out.kp hkp hnF).get_pl (k:=k) (x:=(b,o)) (by rw [List.getElem?_map,hx];rfl)
      have h0:=hr.c0
      have Hr:=Lib.hid hr
      have Hkp:=Lib.hid hkp
      have Hbk:=Lib.hid hbk
      have Hx:=Lib.hid hx
      have q1:(k:Int)<(n:Int):=by omega
      clear hr hkp hbk hx hlt hnF
      go_wp2_with fail
      refine (Num_r _ X _ q p Hr.out).mono ?_
      rintro e w1 ⟨rfl,h1,hk1⟩
      have hbq:¬Two q p b:=by
        rintro (e | e)
        · exact HXb.out (e ▸ Hr.out.2.1)
        · exact HXb.out (e ▸ Hr.out.2.2.2.1.1)
      have hrow:=hk1.heap Hbk.out hbq
      have hsz:o<(setW cs (offs.zip (rdN RS.word k s).1)).size:=by rw [setW_size];exact Ho.out o (List.mem_of_getElem? Hx.out)
      obtain ⟨u,hcell⟩:∃u,w1.cell? ⟨b,o,none⟩=some u:=⟨_,(cell_of_row w1 b o _ _ _ hrow).trans (Array.getElem?_eq_getElem hsz)⟩
      have hfz:w1.frozen? ⟨b,o,none⟩=false:=by simp [World.frozen?,hrow]
      have H1:=Lib.hid h1
      have Hk1:=Lib.hid hk1
      have Hrow:=Lib.hid hrow
      have Hbq:=Lib.hid hbq
      clear h1 hk1 hrow hsz hbq
      go_wp2_with fail
      go_roundw
      case rel =>
        have hset:=heap_setCell_same w1 b o _ _ (.int .i64 (i64of (rdN RS.word k s).2.word.1)) Hrow.out
        have hkb:Kp (fun g=>g=b) w1 (w1.setCell ⟨b,o,none⟩ (.int .i64 (i64of (rdN RS.word k s).2.word.1))):=Kp.set1 _ _ _ _
        refine ⟨k+1,by omega,by go_num,H1.out.kp hkb (fun g hg e=>HXb.out (e ▸ hg)),?_,Hkp.out.trans ((Hk1.out.mono fun _ _ h=>.inl h).trans (hkb.mono fun _ _ h=>.inr h))⟩
        rw [hset,rdN,zip_snoc _ _ o _ (by rw [rdN_len];exact Hx.out),setW_snoc]
      case measure=>simp [intOf];omega
    · have Hr:=Lib.hid hr
      have Hkp:=Lib.hid hkp
      have Hbk:=Lib.hid hbk
      have Hkn:=Lib.hid (show k=offs.length by rw [<- Hn.out];omega)
      clear hr hkp hbk
      go_wp2_with fail
      go_end0
      rw [<- Hkn.out]
      exact ⟨rfl,Hr.out,Hbk.out,Hkp.out⟩
theorem rir_nums_lit (w:World) (X:Nat->Prop) (s:RS) (q p b:Nat) (offs:List Nat) (cs ps:Array Value) (t:TypeId) (m z:Nat) (hz:z=w.heap.size) (hm:m=offs.length) (hps:ps.toList=offs.map fun o=>.pointer (some ⟨b,o,none⟩)) (h:RirAt w X s q p)
  (hb:w.heap[b]?=some (.cells cs t (0,0))) (hXb:¬X b) (ho:∀o∈offs,o<cs.size) (hl:offs.length<=9223372036854775807) :
  Calls Tryz.prog 127 #[.pointer (some ⟨q,0,none⟩),.slice (some ⟨z,0,none⟩) m m] (w.alloc (.cells ps 197)) fun e w'=>e = .returned (.tuple #[])/\RirAt w' X (rdN RS.word offs.length s).2 q p/\w'.heap[b]?=some (.cells (setW cs (offs.zip (rdN RS.word offs.length s).1)) t (0,0))/\Kp (fun g=>Two q p g\/g=b) w w':=by
 subst hm
 subst hz
 have hk:Kp No w (w.alloc (.cells ps 197)):=(Kp.refl _ _).alloc _
 have hbl:=(Array.getElem?_eq_some_iff.1 hb).1
 have hs:SliceAt plR (w.alloc (.cells ps 197)) (fun g=>g=w.heap.size) (offs.map fun o=>(b,o)) (.slice (some ⟨w.heap.size,0,none⟩) offs.length offs.length):=by
  refine ⟨_,offs.length,by rw [List.length_map],by simp,by unfold maxLen;omega,fun _=>⟨w.heap.size,0,rfl,rfl,by rw [alloc_size];omega,ps.toList,?_,fun j u hu=>?_⟩⟩
  ·rw [hps]
   have:∀l:List Nat,All2 (plR.rel (w.alloc (.cells ps 197)) (fun g=>g=w.heap.size)) (l.map fun o=>(b,o)) (l.map fun o=>.pointer (some ⟨b,o,none⟩)):=by
    intro l
    induction l with
    | nil=>rfl
    | cons x l ih=>exact ⟨[.pointer (some ⟨b,x,none⟩)],_,rfl,rfl,ih⟩
   exact this offs
  ·rw [Nat.zero_add,cell_of_row _ w.heap.size j _ _ _ (heap_alloc_new w _)]
   rw [<- hu]
   exact (Array.getElem?_toList ..).symm
 refine (rir_nums _ X _ s q p b offs cs t _ (h.kp hk (fun _ _=>id)) hs (fun g hg=>?_) (hk.heap hb id) hXb ho).mono fun _ _ ⟨e,a,c,d⟩=>⟨e,a,c,(hk.mono fun _ _ h=>h.elim).trans d⟩
 subst hg
 exact ⟨by rw [alloc_size];omega,fun hx=>absurd (h.2.2.1 _ hx) (by omega),by omega⟩
end Go.Proofs.YthgbdoofchknhaaGreatDoor
end
section
namespace Go.Proofs.YthgbdoofchknhaaGreatDoor
open Go.RowKit
set_option maxHeartbeats 400000 in
theorem rir_port (w:World) (X:Nat->Prop) (s:RS) (q p:Nat) (h:RirAt w X s q p) :
  Calls Tryz.prog 151 #[.pointer (some ⟨q,0,none⟩)] w fun e w'=>e = .returned (.agg #[.int .i64 (i64of (rdPt s).1.kind),.int .i64 (i64of (rdPt s).1.tenant),.int .i64 (i64of (rdPt s).1.peer),.int .i64 (i64of (rdPt s).1.at_),.int .i64 (i64of (rdPt s).1.cost)])/\RirAt w' X (rdPt s).2 q p/\Kp (Two q p) w w':=by
 obtain ⟨hq,hp,hpq⟩:=h.lt
 have H:=Lib.hid h
 have HX:=Lib.hid h.off
 clear h hpq
 go_enter Tryz.func151,Tryz.ntmps151
 go_wp2_with fail
 have hx:Kp (From w.heap.size) w (w.alloc (.cells #[.int .i64 0,.int .i64 0,.int .i64 0,.int .i64 0,.int .i64 0] 107)):=(by repeat (first | with_reducible exact Kp.refl _ _ | with_reducible refine Kp.alloc ?_ _ | with_reducible refine Kp.drew ?_ | with_reducible refine Kp.drewN ?_ _ | with_reducible refine Kp.setRow ?_ (from_le (by first | exact Nat.le_refl _ | omega)) _ | with_reducible refine Kp.setCell ?_ (Or.inl (from_le (by first | (dsimp only;omega) | omega | (simp;omega) | (simp;done)))) _))
 refine (rir_nums_lit _ X s q p w.heap.size [0,1,2,3,4] _ _ _ _ _ (alloc_size _ _).symm rfl rfl (H.out.kp hx HX.out) (heap_alloc_new w _) (fun h=>absurd (HX.out _ h) (by simp [From])) (by simp) (by simp)).mono ?_
 rintro e w1 ⟨rfl,h1,hr1,hk1⟩
 have c0:w1.cell? ⟨w.heap.size,0,none⟩=some (.int .i64 (i64of (rdPt s).1.kind)):=cell_of_row _ _ 0 _ _ _ hr1
 have c1:w1.cell? ⟨w.heap.size,1,none⟩=some (.int .i64 (i64of (rdPt s).1.tenant)):=cell_of_row _ _ 1 _ _ _ hr1
 have c2:w1.cell? ⟨w.heap.size,2,none⟩=some (.int .i64 (i64of (rdPt s).1.peer)):=cell_of_row _ _ 2 _ _ _ hr1
 have c3:w1.cell? ⟨w.heap.size,3,none⟩=some (.int .i64 (i64of (rdPt s).1.at_)):=cell_of_row _ _ 3 _ _ _ hr1
 have c4:w1.cell? ⟨w.heap.size,4,none⟩=some (.int .i64 (i64of (rdPt s).1.cost)):=cell_of_row _ _ 4 _ _ _ hr1
 have cf:∀o,w1.frozen? ⟨w.heap.size,o,none⟩=false:=fun o=>frz_of_row _ _ o _ _ hr1
 have H1:=Lib.hid (show RirAt w1 X (rdPt s).2 q p from h1)
 have Hk:=Lib.hid (hx.fr.trans (hk1.orb (Nat.le_refl _)))
 have z1:w.heap.size<w1.heap.size:=(Array.getElem?_eq_some_iff.1 hr1).1
 clear h1 hk1 hx
 go_wp2_with fail
 refine bodyPost_ret (v:=.agg #[.int .i64 (i64of (rdPt s).1.kind),.int .i64 (i64of (rdPt s).1.tenant),.int .i64 (i64of (rdPt s).1.peer),.int .i64 (i64of (rdPt s).1.at_),.int .i64 (i64of (rdPt s).1.cost)]) ?_ rfl ⟨rfl,H1.out.kp (S:=From w.heap.size) (by repeat (first | with_reducible exact Kp.refl _ _ | with_reducible refine Kp.alloc ?_ _ | with_reducible refine Kp.drew ?_ | with_reducible refine Kp.drewN ?_ _ | with_reducible refine Kp.setRow ?_ (from_le (by first | exact Nat.le_refl _ | omega)) _ | with_reducible refine Kp.setCell ?_ (Or.inl (from_le (by first | (dsimp only;omega) | omega | (simp;omega) | (simp;done)))) _)) HX.out,(Hk.out.trans (Kp.fr (S:=Two q p) (show Kp (From w.heap.size) w1 _ from (by repeat (first | with_reducible exact Kp.refl _ _ | with_reducible refine Kp.alloc ?_ _ | with_reducible refine Kp.drew ?_ | with_reducible refine Kp.drewN ?_ _ | with_reducible refine Kp.setRow ?_ (from_le (by first | exact Nat.le_refl _ | omega)) _ | with_reducible refine Kp.setCell ?_ (Or.inl (from_le (by first | (dsimp only;omega) | omega | (simp;omega) | (simp;done)))) _))))).unfresh⟩
 simp [results,Tryz.results151,go_sem,c0,c1,c2,c3,c4]
set_option maxHeartbeats 400000 in
theorem rir_peer (w:World) (X:Nat->Prop) (s:RS) (q p:Nat) (h:RirAt w X s q p) :
  Calls Tryz.prog 129 #[.pointer (some ⟨q,0,none⟩)] w fun e w'=>e = .returned (.agg #[.int .i64 (i64of (rdPr s).1.a),.int .i64 (i64of (rdPr s).1.b)])/\RirAt w' X (rdPr s).2 q p/\Kp (Two q p) w w':=by
 obtain ⟨hq,hp,hpq⟩:=h.lt
 have H:=Lib.hid h
 have HX:=Lib.hid h.off
 clear h hpq
 go_enter Tryz.func129,Tryz.ntmps129
 go_wp2_with fail
 have hx:Kp (From w.heap.size) w (w.alloc (.cells #[.int .i64 0,.int .i64 0] 96)):=(by repeat (first | with_reducible exact Kp.refl _ _ | with_reducible refine Kp.alloc ?_ _ | with_reducible refine Kp.drew ?_ | with_reducible refine Kp.drewN ?_ _ | with_reducible refine Kp.setRow ?_ (from_le (by first | exact Nat.le_refl _ | omega)) _ | with_reducible refine Kp.setCell ?_ (Or.inl (from_le (by first | (dsimp only;omega) | omega | (simp;omega) | (simp;done)))) _))
 refine (rir_nums_lit _ X s q p w.heap.size [0,1] _ _ _ _ _ (alloc_size _ _).symm rfl rfl (H.out.kp hx HX.out) (heap_alloc_new w _) (fun h=>absurd (HX.out _ h) (by simp [From])) (by simp) (by simp)).mono ?_
 rintro e w1 ⟨rfl,h1,hr1,hk1⟩
 have c0:w1.cell? ⟨w.heap.size,0,none⟩=some (.int .i64 (i64of (rdPr s).1.a)):=cell_of_row _ _ 0 _ _ _ hr1
 have c1:w1.cell? ⟨w.heap.size,1,none⟩=some (.int .i64 (i64of (rdPr s).1.b)):=cell_of_row _ _ 1 _ _ _ hr1
 have cf:∀o,w1.frozen? ⟨w.heap.size,o,none⟩=false:=fun o=>frz_of_row _ _ o _ _ hr1
 have H1:=Lib.hid (show RirAt w1 X (rdPr s).2 q p from h1)
 have Hk:=Lib.hid (hx.fr.trans (hk1.orb (Nat.le_refl _)))
 have z1:w.heap.size<w1.heap.size:=(Array.getElem?_eq_some_iff.1 hr1).1
 clear h1 hk1 hx
 go_wp2_with fail
 refine bodyPost_ret (v:=.agg #[.int .i64 (i64of (rdPr s).1.a),.int .i64 (i64of (rdPr s).1.b)]) ?_ rfl ⟨rfl,H1.out.kp (S:=From w.heap.size) (by repeat (first | with_reducible exact Kp.refl _ _ | with_reducible refine Kp.alloc ?_ _ | with_reducible refine Kp.drew ?_ | with_reducible refine Kp.drewN ?_ _ | with_reducible refine Kp.setRow ?_ (from_le (by first | exact Nat.le_refl _ | omega)) _ | with_reducible refine Kp.setCell ?_ (Or.inl (from_le (by first | (dsimp only;omega) | omega | (simp;omega) | (simp;done)))) _)) HX.out,(Hk.out.trans (Kp.fr (S:=Two q p) (show Kp (From w.heap.size) w1 _ from (by repeat (first | with_reducible exact Kp.refl _ _ | with_reducible refine Kp.alloc ?_ _ | with_reducible refine Kp.drew ?_ | with_reducible refine Kp.drewN ?_ _ | with_reducible refine Kp.setRow ?_ (from_le (by first | exact Nat.le_refl _ | omega)) _ | with_reducible refine Kp.setCell ?_ (Or.inl (from_le (by first | (dsimp only;omega) | omega | (simp;omega) | (simp;done)))) _))))).unfresh⟩
 simp [results,Tryz.results129,go_sem,c0,c1]
set_option maxHeartbeats 400000 in
theorem rir_way (w:World) (X:Nat->Prop) (s:RS) (q p:Nat) (h:RirAt w X s q p) :
  Calls Tryz.prog 131 #[.pointer (some ⟨q,0,none⟩)] w fun e w'=>e = .returned (.agg #[.int .i64 (i64of (rdWy s).1.fro),.int .i64 (i64of (rdWy s).1.to),.int .i64 (i64of (rdWy s).1.via)])/\RirAt w' X (rdWy s).2 q p/\Kp (Two q p) w w':=by
 obtain ⟨hq,hp,hpq⟩:=h.lt
 have H:=Lib.hid h
 have HX:=Lib.hid h.off
 clear h hpq
 go_enter Tryz.func131,Tryz.ntmps131
 go_wp2_with fail
 have hx:Kp (From w.heap.size) w (w.alloc (.cells #[.int .i64 0,.int .i64 0,.int .i64 0] 98)):=(by repeat (first | with_reducible exact Kp.refl _ _ | with_reducible refine Kp.alloc ?_ _ | with_reducible refine Kp.drew ?_ | with_reducible refine Kp.drewN ?_ _ | with_reducible refine Kp.setRow ?_ (from_le (by first | exact Nat.le_refl _ | omega)) _ | with_reducible refine Kp.setCell ?_ (Or.inl (from_le (by first | (dsimp only;omega) | omega | (simp;omega) | (simp;done)))) _))
 refine (rir_nums_lit _ X s q p w.heap.size [0,1,2] _ _ _ _ _ (alloc_size _ _).symm rfl rfl (H.out.kp hx HX.out) (heap_alloc_new w _) (fun h=>absurd (HX.out _ h) (by simp [From])) (by simp) (by simp)).mono ?_
 rintro e w1 ⟨rfl,h1,hr1,hk1⟩
 have c0:w1.cell? ⟨w.heap.size,0,none⟩=some (.int .i64 (i64of (rdWy s).1.fro)):=cell_of_row _ _ 0 _ _ _ hr1
 have c1:w1.cell? ⟨w.heap.size,1,none⟩=some (.int .i64 (i64of (rdWy s).1.to)):=cell_of_row _ _ 1 _ _ _ hr1
 have c2:w1.cell? ⟨w.heap.size,2,none⟩=some (.int .i64 (i64of (rdWy s).1.via)):=cell_of_row _ _ 2 _ _ _ hr1
 have cf:∀o,w1.frozen? ⟨w.heap.size,o,none⟩=false:=fun o=>frz_of_row _ _ o _ _ hr1
 have H1:=Lib.hid (show RirAt w1 X (rdWy s).2 q p from h1)
 have Hk:=Lib.hid (hx.fr.trans (hk1.orb (Nat.le_refl _)))
 have z1:w.heap.size<w1.heap.size:=(Array.getElem?_eq_some_iff.1 hr1).1
 clear h1 hk1 hx
 go_wp2_with fail
 refine bodyPost_ret (v:=.agg #[.int .i64 (i64of (rdWy s).1.fro),.int .i64 (i64of (rdWy s).1.to),.int .i64 (i64of (rdWy s).1.via)]) ?_ rfl ⟨rfl,H1.out.kp (S:=From w.heap.size) (by repeat (first | with_reducible exact Kp.refl _ _ | with_reducible refine Kp.alloc ?_ _ | with_reducible refine Kp.drew ?_ | with_reducible refine Kp.drewN ?_ _ | with_reducible refine Kp.setRow ?_ (from_le (by first | exact Nat.le_refl _ | omega)) _ | with_reducible refine Kp.setCell ?_ (Or.inl (from_le (by first | (dsimp only;omega) | omega | (simp;omega) | (simp;done)))) _)) HX.out,(Hk.out.trans (Kp.fr (S:=Two q p) (show Kp (From w.heap.size) w1 _ from (by repeat (first | with_reducible exact Kp.refl _ _ | with_reducible refine Kp.alloc ?_ _ | with_reducible refine Kp.drew ?_ | with_reducible refine Kp.drewN ?_ _ | with_reducible refine Kp.setRow ?_ (from_le (by first | exact Nat.le_refl _ | omega)) _ | with_reducible refine Kp.setCell ?_ (Or.inl (from_le (by first | (dsimp only;omega) | omega | (simp;omega) | (simp;done)))) _))))).unfresh⟩
 simp [results,Tryz.results131,go_sem,c0,c1,c2]
set_option maxHeartbeats 400000 in
theorem rir_cube (w:World) (X:Nat->Prop) (s:RS) (q p:Nat) (h:RirAt w X s q p) :
  Calls Tryz.prog 162 #[.pointer (some ⟨q,0,none⟩)] w fun e w'=>e = .returned (.agg #[.int .u64 ((rdCb s).1.value.hi).toNat,.int .u64 ((rdCb s).1.value.lo).toNat,.int .u64 ((rdCb s).1.care.hi).toNat,.int .u64 ((rdCb s).1.care.lo).toNat])/\RirAt w' X (rdCb s).2 q p/\Kp (Two q p) w w':=by
 obtain ⟨hq,hp,hpq⟩:=h.lt
 have H:=Lib.hid h
 have HX:=Lib.hid h.off
 clear h hpq
 go_enter Tryz.func162,Tryz.ntmps162
 go_wp2_with fail
 refine (rir_head _ X s q p (H.out.kp (S:=From w.heap.size) (by repeat (first | with_reducible exact Kp.refl _ _ | with_reducible refine Kp.alloc ?_ _ | with_reducible refine Kp.drew ?_ | with_reducible refine Kp.drewN ?_ _ | with_reducible refine Kp.setRow ?_ (from_le (by first | exact Nat.le_refl _ | omega)) _ | with_reducible refine Kp.setCell ?_ (Or.inl (from_le (by first | (dsimp only;omega) | omega | (simp;omega) | (simp;done)))) _)) HX.out)).mono ?_
 rintro e w1 ⟨rfl,h1,hk1⟩
 have Hk1:=Lib.hid ((Kp.fr (S:=Two q p) (show Kp (From w.heap.size) w _ from (by repeat (first | with_reducible exact Kp.refl _ _ | with_reducible refine Kp.alloc ?_ _ | with_reducible refine Kp.drew ?_ | with_reducible refine Kp.drewN ?_ _ | with_reducible refine Kp.setRow ?_ (from_le (by first | exact Nat.le_refl _ | omega)) _ | with_reducible refine Kp.setCell ?_ (Or.inl (from_le (by first | (dsimp only;omega) | omega | (simp;omega) | (simp;done)))) _)))).trans hk1.orl)
 obtain ⟨c1,f1,z1⟩:=hk1.reads w.heap.size (by unfold Two;omega) (by simp)
 have zq:=h1.lt.1
 have H1:=Lib.hid h1
 clear h1 hk1
 go_wp2_with fail
 refine (rir_head _ X _ q p (H1.out.kp (S:=From w.heap.size) (by repeat (first | with_reducible exact Kp.refl _ _ | with_reducible refine Kp.alloc ?_ _ | with_reducible refine Kp.drew ?_ | with_reducible refine Kp.drewN ?_ _ | with_reducible refine Kp.setRow ?_ (from_le (by first | exact Nat.le_refl _ | omega)) _ | with_reducible refine Kp.setCell ?_ (Or.inl (from_le (by first | (dsimp only;omega) | omega | (simp;omega) | (simp;done)))) _)) HX.out)).mono ?_
 rintro e w2 ⟨rfl,h1,hk2⟩
 have Hk2:=Lib.hid ((Hk1.out.trans (Kp.fr (S:=Two q p) (show Kp (From w.heap.size) w1 _ from (by repeat (first | with_reducible exact Kp.refl _ _ | with_reducible refine Kp.alloc ?_ _ | with_reducible refine Kp.drew ?_ | with_reducible refine Kp.drewN ?_ _ | with_reducible refine Kp.setRow ?_ (from_le (by first | exact Nat.le_refl _ | omega)) _ | with_reducible refine Kp.setCell ?_ (Or.inl (from_le (by first | (dsimp only;omega) | omega | (simp;omega) | (simp;done)))) _))))).trans hk2.orl)
 obtain ⟨c2,f2,z2⟩:=hk2.reads w.heap.size (by unfold Two;omega) (by simp;omega)
 obtain ⟨c3,f3,z3⟩:=hk2.reads w1.heap.size (by unfold Two;omega) (by simp)
 have H2:=Lib.hid (show RirAt w2 X (rdCb s).2 q p from h1)
 clear h1 hk2
 go_wp2_with fail
 have n1:¬w1.heap.size=w.heap.size:=by omega
 refine bodyPost_ret (v:=.agg #[.int .u64 ((rdCb s).1.value.hi).toNat,.int .u64 ((rdCb s).1.value.lo).toNat,.int .u64 ((rdCb s).1.care.hi).toNat,.int .u64 ((rdCb s).1.care.lo).toNat]) ?_ rfl ⟨rfl,H2.out.kp (S:=From w.heap.size) (by repeat (first | with_reducible exact Kp.refl _ _ | with_reducible refine Kp.alloc ?_ _ | with_reducible refine Kp.drew ?_ | with_reducible refine Kp.drewN ?_ _ | with_reducible refine Kp.setRow ?_ (from_le (by first | exact Nat.le_refl _ | omega)) _ | with_reducible refine Kp.setCell ?_ (Or.inl (from_le (by first | (dsimp only;omega) | omega | (simp;omega) | (simp;done)))) _)) HX.out,(Hk2.out.trans (Kp.fr (S:=Two q p) (show Kp (From w.heap.size) w2 _ from (by repeat (first | with_reducible exact Kp.refl _ _ | with_reducible refine Kp.alloc ?_ _ | with_reducible refine Kp.drew ?_ | with_reducible refine Kp.drewN ?_ _ | with_reducible refine Kp.setRow ?_ (from_le (by first | exact Nat.le_refl _ | omega)) _ | with_reducible refine Kp.setCell ?_ (Or.inl (from_le (by first | (dsimp only;omega) | omega | (simp;omega) | (simp;done)))) _))))).unfresh⟩
 simp [results,Tryz.results162,go_sem,c2,c3,c1,z1,n1,rdCb]
theorem rdN_w3 (s:RS):(rdN RS.word 3 s).1=[s.word.1,s.word.2.word.1,s.word.2.word.2.word.1]:=rfl
set_option maxHeartbeats 1000000 in
theorem rir_rule0 (w:World) (X:Nat->Prop) (s:RS) (q p:Nat) (h:RirAt w X s q p) :
  Calls Tryz.prog 159 #[.pointer (some ⟨q,0,none⟩)] w fun e w'=>e = .returned (.agg #[.int .i64 (i64of s.word.1),.int .u64 ((rdCb s.word.2).1.value.hi).toNat,.int .u64 ((rdCb s.word.2).1.value.lo).toNat,.int .u64 ((rdCb s.word.2).1.care.hi).toNat,.int .u64 ((rdCb s.word.2).1.care.lo).toNat,.int .i64 (i64of (rdCb s.word.2).2.word.1),.int .i64 (i64of (rdCb s.word.2).2.word.2.word.1),.int .i64 (i64of (rdCb s.word.2).2.word.2.word.2.word.1),.int .u64 ((rdCb (rdAc3 (rdCb s.word.2).2)).1.value.hi).toNat,.int .u64 ((rdCb (rdAc3 (rdCb s.word.2).2)).1.value.lo).toNat,.int .u64 ((rdCb (rdAc3 (rdCb s.word.2).2)).1.care.hi).toNat,.int .u64 ((rdCb (rdAc3 (rdCb s.word.2).2)).1.care.lo).toNat])/\RirAt w' X (rdCb (rdAc3 (rdCb s.word.2).2)).2 q p/\Kp (Two q p) w w':=by
 obtain ⟨hq,hp,hpq⟩:=h.lt
 have h0:=h.c0
 have H:=Lib.hid h
 have HX:=Lib.hid h.off
 clear h hpq
 go_enter Tryz.func159,Tryz.ntmps159
 go_wp2_with fail
 refine (Num_r _ X s q p (H.out.kp (S:=From w.heap.size) (by repeat (first | with_reducible exact Kp.refl _ _ | with_reducible refine Kp.alloc ?_ _ | with_reducible refine Kp.drew ?_ | with_reducible refine Kp.drewN ?_ _ | with_reducible refine Kp.setRow ?_ (from_le (by first | exact Nat.le_refl _ | omega)) _ | with_reducible refine Kp.setCell ?_ (Or.inl (from_le (by first | (dsimp only;omega) | omega | (simp;omega) | (simp;done)))) _)) HX.out)).mono ?_
 rintro e w1 ⟨rfl,h1,hk1⟩
 have Hk1:=Lib.hid ((Kp.fr (S:=Two q p) (show Kp (From w.heap.size) w _ from (by repeat (first | with_reducible exact Kp.refl _ _ | with_reducible refine Kp.alloc ?_ _ | with_reducible refine Kp.drew ?_ | with_reducible refine Kp.drewN ?_ _ | with_reducible refine Kp.setRow ?_ (from_le (by first | exact Nat.le_refl _ | omega)) _ | with_reducible refine Kp.setCell ?_ (Or.inl (from_le (by first | (dsimp only;omega) | omega | (simp;omega) | (simp;done)))) _)))).trans hk1.orl)
 have a1:=hk1.heap (heap_alloc_new w _) (by unfold Two;omega)
 have Ha1:=Lib.hid a1
 have z1:w.heap.size<w1.heap.size:=(Array.getElem?_eq_some_iff.1 a1).1
 have zq:=h1.lt.1
 have H1:=Lib.hid h1
 clear h1 hk1 a1 h0
 go_wp2_with fail
 refine (rir_cube _ X _ q p (H1.out.kp (S:=From w.heap.size) (by repeat (first | with_reducible exact Kp.refl _ _ | with_reducible refine Kp.alloc ?_ _ | with_reducible refine Kp.drew ?_ | with_reducible refine Kp.drewN ?_ _ | with_reducible refine Kp.setRow ?_ (from_le (by first | exact Nat.le_refl _ | omega)) _ | with_reducible refine Kp.setCell ?_ (Or.inl (from_le (by first | (dsimp only;omega) | omega | (simp;omega) | (simp;done)))) _)) HX.out)).mono ?_
 rintro e w2 ⟨rfl,h1,hk2⟩
 have Hk2:=Lib.hid ((Hk1.out.trans (Kp.fr (S:=Two q p) (show Kp (From w.heap.size) w1 _ from (by repeat (first | with_reducible exact Kp.refl _ _ | with_reducible refine Kp.alloc ?_ _ | with_reducible refine Kp.drew ?_ | with_reducible refine Kp.drewN ?_ _ | with_reducible refine Kp.setRow ?_ (from_le (by first | exact Nat.le_refl _ | omega)) _ | with_reducible refine Kp.setCell ?_ (Or.inl (from_le (by first | (dsimp only;omega) | omega | (simp;omega) | (simp;done)))) _))))).trans hk2.orl)
 have Ha2:=Lib.hid (hk2.heap (((Kp.refl No w1).alloc _).heap Ha1.out id) (by unfold Two;omega))
 have r2:=hk2.heap (heap_alloc_new w1 _) (by unfold Two;omega)
 have c0:w2.cell? ⟨w1.heap.size,0,none⟩=some (.int .i64 (i64of s.word.1)):=cell_of_row _ _ 0 _ _ _ r2
 have c1:w2.cell? ⟨w1.heap.size,1,none⟩=some (.int .u64 0):=cell_of_row _ _ 1 _ _ _ r2
 have c2:w2.cell? ⟨w1.heap.size,2,none⟩=some (.int .u64 0):=cell_of_row _ _ 2 _ _ _ r2
 have c3:w2.cell? ⟨w1.heap.size,3,none⟩=some (.int .u64 0):=cell_of_row _ _ 3 _ _ _ r2
 have c4:w2.cell? ⟨w1.heap.size,4,none⟩=some (.int .u64 0):=cell_of_row _ _ 4 _ _ _ r2
 have c5:w2.cell? ⟨w1.heap.size,5,none⟩=some (.int .i64 0):=cell_of_row _ _ 5 _ _ _ r2
 have c6:w2.cell? ⟨w1.heap.size,6,none⟩=some (.int .i64 0):=cell_of_row _ _ 6 _ _ _ r2
 have c7:w2.cell? ⟨w1.heap.size,7,none⟩=some (.int .i64 0):=cell_of_row _ _ 7 _ _ _ r2
 have c8:w2.cell? ⟨w1.heap.size,8,none⟩=some (.int .u64 0):=cell_of_row _ _ 8 _ _ _ r2
 have c9:w2.cell? ⟨w1.heap.size,9,none⟩=some (.int .u64 0):=cell_of_row _ _ 9 _ _ _ r2
 have c10:w2.cell? ⟨w1.heap.size,10,none⟩=some (.int .u64 0):=cell_of_row _ _ 10 _ _ _ r2
 have c11:w2.cell? ⟨w1.heap.size,11,none⟩=some (.int .u64 0):=cell_of_row _ _ 11 _ _ _ r2
 have cf:∀o,w2.frozen? ⟨w1.heap.size,o,none⟩=false:=fun o=>frz_of_row _ _ o _ _ r2
 have z2:w1.heap.size<w2.heap.size:=(Array.getElem?_eq_some_iff.1 r2).1
 have Hr2:=Lib.hid r2
 have H2:=Lib.hid h1
 clear h1 hk2 r2
 go_wp2_with fail
 have r3:=heap_setCell_same _ _ 4 _ _ (.int .u64 (rdCb s.word.2).1.care.lo.toNat) (heap_setCell_same _ _ 3 _ _ (.int .u64 (rdCb s.word.2).1.care.hi.toNat) (heap_setCell_same _ _ 2 _ _ (.int .u64 (rdCb s.word.2).1.value.lo.toNat) (heap_setCell_same _ _ 1 _ _ (.int .u64 (rdCb s.word.2).1.value.hi.toNat) Hr2.out)))
 refine (rir_nums_lit _ X _ q p w1.heap.size [5,6,7] _ _ _ _ _ (by simp [World.setCell]) rfl rfl (H2.out.kp (S:=From w.heap.size) (by repeat (first | with_reducible exact Kp.refl _ _ | with_reducible refine Kp.alloc ?_ _ | with_reducible refine Kp.drew ?_ | with_reducible refine Kp.drewN ?_ _ | with_reducible refine Kp.setRow ?_ (from_le (by first | exact Nat.le_refl _ | omega)) _ | with_reducible refine Kp.setCell ?_ (Or.inl (from_le (by first | (dsimp only;omega) | omega | (simp;omega) | (simp;done)))) _)) HX.out) r3 (fun h=>absurd (HX.out _ h) (by simp [From];omega)) (by simp) (by simp)).mono ?_
 rintro e w3 ⟨rfl,h1,hr3,hk3⟩
 simp only [List.length_cons,List.length_nil,Nat.reduceAdd,rdN_w3,List.zip_cons_cons,List.zip_nil_left,setW,List.foldl_cons,List.foldl_nil,List.setIfInBounds_toArray,List.set_cons_zero,List.set_cons_succ] at hr3
 have Hk3:=Lib.hid ((Hk2.out.trans (Kp.fr (S:=Two q p) (show Kp (From w.heap.size) w2 _ from (by repeat (first | with_reducible exact Kp.refl _ _ | with_reducible refine Kp.alloc ?_ _ | with_reducible refine Kp.drew ?_ | with_reducible refine Kp.drewN ?_ _ | with_reducible refine Kp.setRow ?_ (from_le (by first | exact Nat.le_refl _ | omega)) _ | with_reducible refine Kp.setCell ?_ (Or.inl (from_le (by first | (dsimp only;omega) | omega | (simp;omega) | (simp;done)))) _))))).trans (hk3.orb (by omega)))
 have Ha3:=Lib.hid (hk3.heap ((show Kp (fun g=>g=w1.heap.size) w2 _ from (by repeat (first | with_reducible exact Kp.refl _ _ | with_reducible refine Kp.setCell ?_ (Or.inl (by dsimp only)) _))).heap Ha2.out (by omega)) (by unfold Two;omega))
 have z3:w1.heap.size<w3.heap.size:=(Array.getElem?_eq_some_iff.1 hr3).1
 have H3:=Lib.hid (show RirAt w3 X (rdAc3 (rdCb s.word.2).2) q p from h1)
 have Hr3:=Lib.hid hr3
 clear h1 hk3 hr3 r3 c0 c1 c2 c3 c4 c5 c6 c7 c8 c9 c10 c11 cf
 go_wp2_with fail
 refine (rir_cube _ X _ q p (H3.out.kp (S:=From w.heap.size) (by repeat (first | with_reducible exact Kp.refl _ _ | with_reducible refine Kp.alloc ?_ _ | with_reducible refine Kp.drew ?_ | with_reducible refine Kp.drewN ?_ _ | with_reducible refine Kp.setRow ?_ (from_le (by first | exact Nat.le_refl _ | omega)) _ | with_reducible refine Kp.setCell ?_ (Or.inl (from_le (by first | (dsimp only;omega) | omega | (simp;omega) | (simp;done)))) _)) HX.out)).mono ?_
 rintro e w4 ⟨rfl,h1,hk4⟩
 have Hk4:=Lib.hid (Hk3.out.trans hk4.orl)
 have a4:=hk4.heap Ha3.out (by unfold Two;omega)
 have r4:=hk4.heap Hr3.out (by unfold Two;omega)
 have c0:w4.cell? ⟨w1.heap.size,0,none⟩=some (.int .i64 (i64of s.word.1)):=cell_of_row _ _ 0 _ _ _ r4
 have c1:w4.cell? ⟨w1.heap.size,1,none⟩=some (.int .u64 ((rdCb s.word.2).1.value.hi).toNat):=cell_of_row _ _ 1 _ _ _ r4
 have c2:w4.cell? ⟨w1.heap.size,2,none⟩=some (.int .u64 ((rdCb s.word.2).1.value.lo).toNat):=cell_of_row _ _ 2 _ _ _ r4
 have c3:w4.cell? ⟨w1.heap.size,3,none⟩=some (.int .u64 ((rdCb s.word.2).1.care.hi).toNat):=cell_of_row _ _ 3 _ _ _ r4
 have c4:w4.cell? ⟨w1.heap.size,4,none⟩=some (.int .u64 ((rdCb s.word.2).1.care.lo).toNat):=cell_of_row _ _ 4 _ _ _ r4
 have c5:w4.cell? ⟨w1.heap.size,5,none⟩=some (.int .i64 (i64of (rdCb s.word.2).2.word.1)):=cell_of_row _ _ 5 _ _ _ r4
 have c6:w4.cell? ⟨w1.heap.size,6,none⟩=some (.int .i64 (i64of (rdCb s.word.2).2.word.2.word.1)):=cell_of_row _ _ 6 _ _ _ r4
 have c7:w4.cell? ⟨w1.heap.size,7,none⟩=some (.int .i64 (i64of (rdCb s.word.2).2.word.2.word.2.word.1)):=cell_of_row _ _ 7 _ _ _ r4
 have c8:w4.cell? ⟨w1.heap.size,8,none⟩=some (.int .u64 0):=cell_of_row _ _ 8 _ _ _ r4
 have c9:w4.cell? ⟨w1.heap.size,9,none⟩=some (.int .u64 0):=cell_of_row _ _ 9 _ _ _ r4
 have c10:w4.cell? ⟨w1.heap.size,10,none⟩=some (.int .u64 0):=cell_of_row _ _ 10 _ _ _ r4
 have c11:w4.cell? ⟨w1.heap.size,11,none⟩=some (.int .u64 0):=cell_of_row _ _ 11 _ _ _ r4
 have cf:∀o,w4.frozen? ⟨w1.heap.size,o,none⟩=false:=fun o=>frz_of_row _ _ o _ _ r4
 have Ha4:=Lib.hid a4
 have z4:w1.heap.size<w4.heap.size:=(Array.getElem?_eq_some_iff.1 r4).1
 have H4:=Lib.hid h1
 have Hr4:=Lib.hid r4
 clear h1 hk4 r4 a4
 go_upto_region 5 with (fail)
 have r5:=heap_setCell_same _ _ 11 _ _ (.int .u64 ((rdCb (rdAc3 (rdCb s.word.2).2)).1.care.lo).toNat) (heap_setCell_same _ _ 10 _ _ (.int .u64 ((rdCb (rdAc3 (rdCb s.word.2).2)).1.care.hi).toNat) (heap_setCell_same _ _ 9 _ _ (.int .u64 ((rdCb (rdAc3 (rdCb s.word.2).2)).1.value.lo).toNat) (heap_setCell_same _ _ 8 _ _ (.int .u64 ((rdCb (rdAc3 (rdCb s.word.2).2)).1.value.hi).toNat) Hr4.out)))
 simp only [List.setIfInBounds_toArray,List.set_cons_zero,List.set_cons_succ] at r5
 apply wp_region_lit
 refine wpList_load_row rfl 116 (.tmp 3) rfl w1.heap.size rfl _ _ (0,0) _ r5 Tryz.underlying116 rfl (by kernel_rfl) ?_
 refine wpList_store_row rfl 116 (.tmp 2) (.tmp 26) rfl w.heap.size #[.int .i64 (i64of s.word.1),.int .u64 ((rdCb s.word.2).1.value.hi).toNat,.int .u64 ((rdCb s.word.2).1.value.lo).toNat,.int .u64 ((rdCb s.word.2).1.care.hi).toNat,.int .u64 ((rdCb s.word.2).1.care.lo).toNat,.int .i64 (i64of (rdCb s.word.2).2.word.1),.int .i64 (i64of (rdCb s.word.2).2.word.2.word.1),.int .i64 (i64of (rdCb s.word.2).2.word.2.word.2.word.1),.int .u64 ((rdCb (rdAc3 (rdCb s.word.2).2)).1.value.hi).toNat,.int .u64 ((rdCb (rdAc3 (rdCb s.word.2).2)).1.value.lo).toNat,.int .u64 ((rdCb (rdAc3 (rdCb s.word.2).2)).1.care.hi).toNat,.int .u64 ((rdCb (rdAc3 (rdCb s.word.2).2)).1.care.lo).toNat] rfl rfl _ _ ((show Kp (fun g=>g=w1.heap.size) w4 _ from (by repeat (first | with_reducible exact Kp.refl _ _ | with_reducible refine Kp.setCell ?_ (Or.inl (by dsimp only)) _))).heap Ha4.out (by omega)) (by kernel_rfl) (Eq.refl 12) (by simp [Value.oneCell']) ?_
 clear r5
 go_wp2_with fail
 refine bodyPost_ret (v:=.agg #[.int .i64 (i64of s.word.1),.int .u64 ((rdCb s.word.2).1.value.hi).toNat,.int .u64 ((rdCb s.word.2).1.value.lo).toNat,.int .u64 ((rdCb s.word.2).1.care.hi).toNat,.int .u64 ((rdCb s.word.2).1.care.lo).toNat,.int .i64 (i64of (rdCb s.word.2).2.word.1),.int .i64 (i64of (rdCb s.word.2).2.word.2.word.1),.int .i64 (i64of (rdCb s.word.2).2.word.2.word.2.word.1),.int .u64 ((rdCb (rdAc3 (rdCb s.word.2).2)).1.value.hi).toNat,.int .u64 ((rdCb (rdAc3 (rdCb s.word.2).2)).1.value.lo).toNat,.int .u64 ((rdCb (rdAc3 (rdCb s.word.2).2)).1.care.hi).toNat,.int .u64 ((rdCb (rdAc3 (rdCb s.word.2).2)).1.care.lo).toNat]) ?_ rfl ⟨rfl,H4.out.kp (S:=From w.heap.size) (by repeat (first | with_reducible exact Kp.refl _ _ | with_reducible refine Kp.alloc ?_ _ | with_reducible refine Kp.drew ?_ | with_reducible refine Kp.drewN ?_ _ | with_reducible refine Kp.setRow ?_ (from_le (by first | exact Nat.le_refl _ | omega)) _ | with_reducible refine Kp.setCell ?_ (Or.inl (from_le (by first | (dsimp only;omega) | omega | (simp;omega) | (simp;done)))) _)) HX.out,(Hk4.out.trans (Kp.fr (S:=Two q p) (show Kp (From w.heap.size) w4 _ from (by repeat (first | with_reducible exact Kp.refl _ _ | with_reducible refine Kp.alloc ?_ _ | with_reducible refine Kp.drew ?_ | with_reducible refine Kp.drewN ?_ _ | with_reducible refine Kp.setRow ?_ (from_le (by first | exact Nat.le_refl _ | omega)) _ | with_reducible refine Kp.setCell ?_ (Or.inl (from_le (by first | (dsimp only;omega) | omega | (simp;omega) | (simp;done)))) _))))).unfresh⟩
 exact results_cell_row rfl _ _ _ _ _ _ _ rfl (setRow_heap _ _ _ _ _ _ ((show Kp (fun g=>g=w1.heap.size) w4 _ from (by repeat (first | with_reducible exact Kp.refl _ _ | with_reducible refine Kp.setCell ?_ (Or.inl (by dsimp only)) _))).heap Ha4.out (by omega))) Tryz.underlying116 rfl (by kernel_rfl)
theorem rir_rule (w:World) (X:Nat->Prop) (s:RS) (q p:Nat) (h:RirAt w X s q p) :
  Calls Tryz.prog 159 #[.pointer (some ⟨q,0,none⟩)] w fun e w'=>e = .returned (.agg #[.int .i64 (i64of (rdRl s).1.prio),.int .u64 ((rdRl s).1.mat.value.hi).toNat,.int .u64 ((rdRl s).1.mat.value.lo).toNat,.int .u64 ((rdRl s).1.mat.care.hi).toNat,.int .u64 ((rdRl s).1.mat.care.lo).toNat,.int .i64 (i64of (rdRl s).1.act.kind),.int .i64 (i64of (rdRl s).1.act.port),.int .i64 (i64of (rdRl s).1.act.table),.int .u64 ((rdRl s).1.act.set.value.hi).toNat,.int .u64 ((rdRl s).1.act.set.value.lo).toNat,.int .u64 ((rdRl s).1.act.set.care.hi).toNat,.int .u64 ((rdRl s).1.act.set.care.lo).toNat])/\RirAt w' X (rdRl s).2 q p/\Kp (Two q p) w w':=by
 simpa only [rdRl] using rir_rule0 w X s q p h
end Go.Proofs.YthgbdoofchknhaaGreatDoor
end
section
namespace Go.Proofs.YthgbdoofchknhaaGreatDoor
open Go.RowKit
theorem OwnAt.monoE {α:Type} {R:Rep α} {e:TypeId} {w:World} {E E' O:Nat->Prop} {xs:List α} {v:Value} (h:OwnAt R e w E O xs v) (hE:∀b,b<w.heap.size->E b->E' b) (hn:∀g,v.ownBlock=some g->¬E' g):OwnAt R e w E' O xs v:=by
 obtain ⟨cells,h1,h2,h3⟩:=h
 exact ⟨cells,h1,h2.mono fun x c hx=>R.mono hx hE,fun g hg=>⟨(h3 g hg).1,hn g hg⟩⟩
theorem OwnAt.blk {α:Type} {R:Rep α} {e:TypeId} {w:World} {E O:Nat->Prop} {xs:List α} {v:Value} (h:OwnAt R e w E O xs v) {g:Nat} (hg:v.ownBlock=some g):g<w.heap.size/\O g/\¬E g:=by
 obtain ⟨cells,h1,h2,h3⟩:=h
 exact ⟨(h1.lt g hg).2,h3 g hg⟩
theorem RirAt.long {w:World} {X:Nat->Prop} {s:RS} {q p:Nat} (h:RirAt w X s q p) (b:Bool):RirAt (w.setCell ⟨q,1,none⟩ (.bool b)) X (s.1,b) q p:=by
 obtain ⟨h1,h2,h3,h4⟩:=h
 have hk:=Kp.set1 w q 1 (.bool b)
 exact ⟨heap_setCell_same w q 1 _ _ _ h1,h2,fun b hb=>Nat.lt_of_lt_of_le (h3 b hb) hk.size,h4.kp hk fun b hb e=>hb.2 e⟩
def ListSo {α:Type} (R:Rep α) (e:TypeId) (rd:RS->α × RS) (w wr:World) (X:Nat->Prop) (s:RS) (q p k:Nat) (v:Value):Prop :=
 ∃E,OwnAt R e wr E (From w.heap.size) (rdN rd k s).1 v/\(∀b,E b->w.heap.size<=b/\b<wr.heap.size)/\RirAt wr X (rdN rd k s).2 q p/\Kp (Or (Two q p) w.heap.size) w wr
theorem rd_bad {α:Type} {rd:RS->α × RS} {s:RS} {n:Int} (hn:n=i64of s.word.1) (h:n<0\/200<n\/((s.word.2.left:Nat):Int)<n):rdList rd s=([],(s.word.2.1,true)):=by
 subst hn
 unfold rdList
 have h':i64of s.1.wide<0\/200<i64of s.1.wide\/((s.1.take 8).2.left:Int)<i64of s.1.wide:=h
 rw [if_pos h']
 have:(i64of s.1.wide != 0)=true:=by simp;omega
 rw [this,Bool.or_true]
 rfl
theorem rd_good {α:Type} {rd:RS->α × RS} {s:RS} {n:Int} (hn:n=i64of s.word.1) (h:¬(n<0\/200<n\/((s.word.2.left:Nat):Int)<n)):rdList rd s=rdN rd n.toNat s.word.2:=by
 subst hn
 have h':¬(i64of s.1.wide<0\/200<i64of s.1.wide\/((s.1.take 8).2.left:Int)<i64of s.1.wide):=h
 unfold rdList
 rw [if_neg h']
 rfl
theorem ListSo.done {α:Type} {R:Rep α} {e:TypeId} {rd:RS->α × RS} {w wr:World} {X:Nat->Prop} {s:RS} {q p k:Nat} {v:Value} (h:ListSo R e rd w wr X s q p k v) :
  SliceAt R wr (From w.heap.size) (rdN rd k s).1 v/\RirAt wr X (rdN rd k s).2 q p/\Kp (Two q p) w wr:=by
 obtain ⟨E,h1,h2,h3,h4⟩:=h
 exact ⟨h1.slice.mono fun b _ hb=>hb.elim (fun h=>(h2 b h).1) id,h3,h4.unfresh⟩
theorem ListSo.next {α:Type} {R:Rep α} {e:TypeId} {rd:RS->α × RS} {w wr w1 w2:World} {X E:Nat->Prop} {s:RS} {q p k:Nat} {v':Value} (hw:w.heap.size<=wr.heap.size) (hE:∀b,E b->w.heap.size<=b/\b<w1.heap.size)
  (ho:OwnAt R e w2 E (From w.heap.size) ((rdN rd k s).1++[(rd (rdN rd k s).2).1]) v') (hr:RirAt w1 X (rd (rdN rd k s).2).2 q p) (hX:∀b,X b->¬From w.heap.size b) (hk:Kp (Or (Two q p) w.heap.size) w wr) (hk1:Kp (Two q p) wr w1) (hk2:Kp (From w.heap.size) w1 w2) :
  ListSo R e rd w w2 X s q p (k+1) v' :=
 ⟨E,ho,fun b hb=>⟨(hE b hb).1,Nat.lt_of_lt_of_le (hE b hb).2 hk2.size⟩,hr.kp hk2 hX,(hk.trans hk1.orl).trans hk2.fr⟩
theorem Tryz.elr_port:elemB Tryz.prog 128 107 5 40=true:=by kernel_rfl
set_option maxHeartbeats 1000000 in
theorem rir_list_port (w : World) (X : Nat -> Prop) (s : RS) (q p : Nat) (h : RirAt w X s q p) :
    Calls Tryz.prog 150 #[.pointer (some ⟨q,0,none⟩),.func (.func 151) #[.pointer (some ⟨q,0,none⟩)] #[]] w fun e w'=>∃v,e = .returned v/\SliceAt ptR w' (From w.heap.size) (rdList rdPt s).1 v/\RirAt w' X (rdList rdPt s).2 q p/\Kp (Two q p) w w':=by
  obtain ⟨hq,hp,hpq⟩:=h.lt
  have h0:=h.c0
  have H:=Lib.hid h
  have HX:=Lib.hid h.off
  clear h hpq
  obtain ⟨n,hn⟩:∃n,n=i64of s.word.1:=⟨_,rfl⟩
  have Hn:=Lib.hid hn
  have main:Calls Tryz.prog 148 #[.pointer (some ⟨p,0,none⟩)] w fun e w'=>e = .returned (.int .i64 n)/\RirAt w' X s.word.2 q p/\Kp (Two q p) w w':=by rw [hn];exact Num_r w X s q p H.out
  have Hmain:=Lib.hid main
  clear hn main
  by_cases hbad:n<0\/200<n\/((s.word.2.left:Nat):Int)<n
  · have Hbad:=Lib.hid (rd_bad (rd:=rdPt) Hn.out hbad)
    have t1:(n != 0)=true:=by simp;omega
    have fin:∀w2 v,v = .slice none 0 0->RirAt w2 X (s.word.2.1,true) q p->Kp (Two q p) w w2->∃v',Ending.returned v = .returned v'/\SliceAt ptR w2 (From w.heap.size) (rdList rdPt s).1 v'/\RirAt w2 X (rdList rdPt s).2 q p/\Kp (Two q p) w w2:=by
      intro w2 v hv hr hk
      rw [Hbad.out,hv]
      exact ⟨_,rfl,SliceAt.nil _ _ _,hr,hk⟩
    have Fin:=Lib.hid fin
    clear fin
    by_cases h1:n<0
    · clear hbad
      go_enter Tryz.func150,Tryz.ntmps150
      go_wp2_with fail
      refine Hmain.out.mono ?_
      rintro e w1 ⟨rfl,h2,hk1⟩
      have d0:=h2.c1
      have d1:=h2.fz 1
      have H2:=Lib.hid h2
      have Hk1:=Lib.hid hk1
      clear h2 hk1
      go_wp2_with fail
      all_goals
        go_ret
        exact Fin.out _ _ rfl (H2.out.long true) (Hk1.out.trans ((Kp.set1 _ _ _ _).mono fun _ _ e=>.inl e))
    · by_cases h3:200<n
      · clear hbad
        go_enter Tryz.func150,Tryz.ntmps150
        go_wp2_with fail
        refine Hmain.out.mono ?_
        rintro e w1 ⟨rfl,h2,hk1⟩
        have d0:=h2.c1
        have d1:=h2.fz 1
        have H2:=Lib.hid h2
        have Hk1:=Lib.hid hk1
        clear h2 hk1
        go_wp2_with fail
        all_goals
          go_ret
          exact Fin.out _ _ rfl (H2.out.long true) (Hk1.out.trans ((Kp.set1 _ _ _ _).mono fun _ _ e=>.inl e))
      · have h4:((s.word.2.left:Nat):Int)<n:=by omega
        clear hbad
        go_enter Tryz.func150,Tryz.ntmps150
        go_wp2_with fail
        refine Hmain.out.mono ?_
        rintro e w1 ⟨rfl,h2,hk1⟩
        have d0:=h2.c1
        have d1:=h2.fz 1
        have d2:=h2.c0
        have H2:=Lib.hid h2
        have Hk1:=Lib.hid hk1
        clear h2 hk1
        go_wp2_with fail
        refine (Left_r _ X _ q p H2.out).mono ?_
        rintro e w1 ⟨rfl,rfl⟩
        go_wp2_with fail
        all_goals
          go_ret
          exact Fin.out _ _ rfl (H2.out.long true) (Hk1.out.trans ((Kp.set1 _ _ _ _).mono fun _ _ e=>.inl e))
  · have Hgood:=Lib.hid (rd_good (rd:=rdPt) Hn.out hbad)
    have h1:0<=n:=by omega
    have h2:n<=200:=by omega
    have h3:n<=((s.word.2.left:Nat):Int):=by omega
    have h4:¬n<0:=by omega
    have h5:¬200<n:=by omega
    have h6:¬((s.word.2.left:Nat):Int)<n:=by omega
    clear hbad
    go_enter Tryz.func150,Tryz.ntmps150
    go_wp2_with fail
    refine Hmain.out.mono ?_
    rintro e w1 ⟨rfl,h7,hk1⟩
    have d2:=h7.c0
    have H2:=Lib.hid h7
    have Hk1:=Lib.hid hk1
    clear h7 hk1
    go_wp2_with fail
    refine (Left_r _ X _ q p H2.out).mono ?_
    rintro e w1 ⟨rfl,rfl⟩
    clear d2
    go_wp2_with fail
    go_loopw [6,39] (fun v i wr=>∃k:Nat,(k:Int)<=n/\i = .int .i64 k/\ListSo ptR 107 rdPt w wr X s.word.2 q p k v) (fun _ i _=>n.toNat - (intOf i).toNat)
    case atStart=>exact ⟨0,by simpa using h1,rfl,No,OwnAt.nil _ _ _ _ _,fun _ h=>h.elim,H2.out,Hk1.out.orl⟩
    case round =>
      obtain ⟨k,hk,rfl,hso⟩:=hrel
      have q3:(0:Int)<=(k:Int):=by omega
      by_cases hlt:(k:Int)<n
      · obtain ⟨E,hown,hE,hr,hkp⟩:=hso
        have Hsz:=Lib.hid hkp.size
        have Hlen:=Lib.hid (rdN_len rdPt k s.word.2)
        have Hown:=Lib.hid hown
        have HE:=Lib.hid hE
        have Hr:=Lib.hid hr
        have Hkp:=Lib.hid hkp
        clear hown hE hr hkp
        go_wp2_with fail
        refine (rir_port _ X _ q p Hr.out).mono ?_
        rintro e w1 ⟨rfl,h1,hk1⟩
        have H1:=Lib.hid h1
        have Hk1:=Lib.hid hk1
        have Hown1:=Lib.hid ((Hown.out.kp hk1 (fun b hb h=>absurd (HE.out b hb).1 (by unfold Two at h;omega)) (fun b hb h=>absurd hb (by unfold Two at h;unfold From;omega))).alloc (.cells #[.int .i64 (i64of (rdPt (rdN rdPt k s.word.2).2).1.kind),.int .i64 (i64of (rdPt (rdN rdPt k s.word.2).2).1.tenant),.int .i64 (i64of (rdPt (rdN rdPt k s.word.2).2).1.peer),.int .i64 (i64of (rdPt (rdN rdPt k s.word.2).2).1.at_),.int .i64 (i64of (rdPt (rdN rdPt k s.word.2).2).1.cost)] 107))
        have Hrel:=Lib.hid (show (ptR).rel (w1.alloc (.cells #[.int .i64 (i64of (rdPt (rdN rdPt k s.word.2).2).1.kind),.int .i64 (i64of (rdPt (rdN rdPt k s.word.2).2).1.tenant),.int .i64 (i64of (rdPt (rdN rdPt k s.word.2).2).1.peer),.int .i64 (i64of (rdPt (rdN rdPt k s.word.2).2).1.at_),.int .i64 (i64of (rdPt (rdN rdPt k s.word.2).2).1.cost)] 107)) E (rdPt (rdN rdPt k s.word.2).2).1 [.int .i64 (i64of (rdPt (rdN rdPt k s.word.2).2).1.kind),.int .i64 (i64of (rdPt (rdN rdPt k s.word.2).2).1.tenant),.int .i64 (i64of (rdPt (rdN rdPt k s.word.2).2).1.peer),.int .i64 (i64of (rdPt (rdN rdPt k s.word.2).2).1.at_),.int .i64 (i64of (rdPt (rdN rdPt k s.word.2).2).1.cost)] from rfl)
        have hsz1:=hk1.size
        have HE1:=Lib.hid (show ∀b,E b->w.heap.size<=b/\b<w1.heap.size from fun b hb=>⟨(HE.out b hb).1,Nat.lt_of_lt_of_le (HE.out b hb).2 hsz1⟩)
        clear h1 hk1
        go_wp2_with (at_builtin;(refine wpList_append_rep (R:=ptR) (E:=E) (O:=From w.heap.size) (bytes:=40) rfl _ _ rfl Tryz.elr_port (by decide) rfl Hown1.out _ _ _ [(rdPt (rdN rdPt k s.word.2).2).1] rfl rfl (Source.one (cs:=[.int .i64 (i64of (rdPt (rdN rdPt k s.word.2).2).1.kind),.int .i64 (i64of (rdPt (rdN rdPt k s.word.2).2).1.tenant),.int .i64 (i64of (rdPt (rdN rdPt k s.word.2).2).1.peer),.int .i64 (i64of (rdPt (rdN rdPt k s.word.2).2).1.at_),.int .i64 (i64of (rdPt (rdN rdPt k s.word.2).2).1.cost)]) Hrel.out) ?_ ?_ ?_ ?_ ?_);(· exact fun b hb=>by have:=HE1.out b hb;simp;omega);(· exact fun b hb=>by have:=Hsz.out;simp at hb;unfold From;omega);(· (have:=Hlen.out;simp;omega));(· (have:=Hlen.out;simp;omega));(intro b' w2 hown2 hkp2 hat2))
        have hk2:Kp (From w.heap.size) w1 w2:=((Kp.refl _ w1).alloc _).trans (hkp2.mono fun b hb h=>(Hown1.out.blk h).2.1)
        have Hso:=Lib.hid (ListSo.next (s:=s.word.2) Hsz.out HE1.out hown2 H1.out HX.out Hkp.out Hk1.out hk2)
        clear hown2 hkp2 hat2 hk2
        go_wp2_with fail
        go_roundw
        case rel=>exact ⟨k+1,by omega,by go_num,Hso.out⟩
        case measure=>simp [intOf];omega
      · have Hso:=Lib.hid hso
        have Hkn:=Lib.hid (show n.toNat=k by omega)
        clear hso
        go_wp2_with fail
        go_ret
        rw [Hgood.out,Hkn.out]
        exact ⟨_,rfl,Hso.out.done⟩
theorem rir_ports (w:World) (X:Nat->Prop) (s:RS) (q p:Nat) (h:RirAt w X s q p) :
  Calls Tryz.prog 126 #[.pointer (some ⟨q,0,none⟩)] w fun e w'=>∃v,e = .returned v/\SliceAt ptR w' (From w.heap.size) (rdPorts s).1 v/\RirAt w' X (rdPorts s).2 q p/\Kp (Two q p) w w':=by
 have H:=Lib.hid h
 clear h
 go_enter Tryz.func126,Tryz.ntmps126
 go_wp2_with fail
 refine (rir_list_port w X s q p H.out).mono ?_
 rintro e w1 ⟨v,rfl,h1,h2,h3⟩
 have H1:=Lib.hid h1
 have H2:=Lib.hid h2
 have H3:=Lib.hid h3
 clear h1 h2 h3
 go_wp2_with fail
 go_ret
 exact ⟨v,rfl,H1.out,H2.out,H3.out⟩
theorem Tryz.elr_peer:elemB Tryz.prog 28 96 2 16=true:=by kernel_rfl
set_option maxHeartbeats 1000000 in
theorem rir_list_peer (w : World) (X : Nat -> Prop) (s : RS) (q p : Nat) (h : RirAt w X s q p) :
    Calls Tryz.prog 128 #[.pointer (some ⟨q,0,none⟩),.func (.func 129) #[.pointer (some ⟨q,0,none⟩)] #[]] w fun e w'=>∃v,e = .returned v/\SliceAt prR w' (From w.heap.size) (rdList rdPr s).1 v/\RirAt w' X (rdList rdPr s).2 q p/\Kp (Two q p) w w':=by
  obtain ⟨hq,hp,hpq⟩:=h.lt
  have h0:=h.c0
  have H:=Lib.hid h
  have HX:=Lib.hid h.off
  clear h hpq
  obtain ⟨n,hn⟩:∃n,n=i64of s.word.1:=⟨_,rfl⟩
  have Hn:=Lib.hid hn
  have main:Calls Tryz.prog 148 #[.pointer (some ⟨p,0,none⟩)] w fun e w'=>e = .returned (.int .i64 n)/\RirAt w' X s.word.2 q p/\Kp (Two q p) w w':=by rw [hn];exact Num_r w X s q p H.out
  have Hmain:=Lib.hid main
  clear hn main
  by_cases hbad:n<0\/200<n\/((s.word.2.left:Nat):Int)<n
  · have Hbad:=Lib.hid (rd_bad (rd:=rdPr) Hn.out hbad)
    have t1:(n != 0)=true:=by simp;omega
    have fin:∀w2 v,v = .slice none 0 0->RirAt w2 X (s.word.2.1,true) q p->Kp (Two q p) w w2->∃v',Ending.returned v = .returned v'/\SliceAt prR w2 (From w.heap.size) (rdList rdPr s).1 v'/\RirAt w2 X (rdList rdPr s).2 q p/\Kp (Two q p) w w2:=by
      intro w2 v hv hr hk
      rw [Hbad.out,hv]
      exact ⟨_,rfl,SliceAt.nil _ _ _,hr,hk⟩
    have Fin:=Lib.hid fin
    clear fin
    by_cases h1:n<0
    · clear hbad
      go_enter Tryz.func128,Tryz.ntmps128
      go_wp2_with fail
      refine Hmain.out.mono ?_
      rintro e w1 ⟨rfl,h2,hk1⟩
      have d0:=h2.c1
      have d1:=h2.fz 1
      have H2:=Lib.hid h2
      have Hk1:=Lib.hid hk1
      clear h2 hk1
      go_wp2_with fail
      all_goals
        go_ret
        exact Fin.out _ _ rfl (H2.out.long true) (Hk1.out.trans ((Kp.set1 _ _ _ _).mono fun _ _ e=>.inl e))
    · by_cases h3:200<n
      · clear hbad
        go_enter Tryz.func128,Tryz.ntmps128
        go_wp2_with fail
        refine Hmain.out.mono ?_
        rintro e w1 ⟨rfl,h2,hk1⟩
        have d0:=h2.c1
        have d1:=h2.fz 1
        have H2:=Lib.hid h2
        have Hk1:=Lib.hid hk1
        clear h2 hk1
        go_wp2_with fail
        all_goals
          go_ret
          exact Fin.out _ _ rfl (H2.out.long true) (Hk1.out.trans ((Kp.set1 _ _ _ _).mono fun _ _ e=>.inl e))
      · have h4:((s.word.2.left:Nat):Int)<n:=by omega
        clear hbad
        go_enter Tryz.func128,Tryz.ntmps128
        go_wp2_with fail
        refine Hmain.out.mono ?_
        rintro e w1 ⟨rfl,h2,hk1⟩
        have d0:=h2.c1
        have d1:=h2.fz 1
        have d2:=h2.c0
        have H2:=Lib.hid h2
        have Hk1:=Lib.hid hk1
        clear h2 hk1
        go_wp2_with fail
        refine (Left_r _ X _ q p H2.out).mono ?_
        rintro e w1 ⟨rfl,rfl⟩
        go_wp2_with fail
        all_goals
          go_ret
          exact Fin.out _ _ rfl (H2.out.long true) (Hk1.out.trans ((Kp.set1 _ _ _ _).mono fun _ _ e=>.inl e))
  · have Hgood:=Lib.hid (rd_good (rd:=rdPr) Hn.out hbad)
    have h1:0<=n:=by omega
    have h2:n<=200:=by omega
    have h3:n<=((s.word.2.left:Nat):Int):=by omega
    have h4:¬n<0:=by omega
    have h5:¬200<n:=by omega
    have h6:¬((s.word.2.left:Nat):Int)<n:=by omega
    clear hbad
    go_enter Tryz.func128,Tryz.ntmps128
    go_wp2_with fail
    refine Hmain.out.mono ?_
    rintro e w1 ⟨rfl,h7,hk1⟩
    have d2:=h7.c0
    have H2:=Lib.hid h7
    have Hk1:=Lib.hid hk1
    clear h7 hk1
    go_wp2_with fail
    refine (Left_r _ X _ q p H2.out).mono ?_
    rintro e w1 ⟨rfl,rfl⟩
    clear d2
    go_wp2_with fail
    go_loopw [6,39] (fun v i wr=>∃k:Nat,(k:Int)<=n/\i = .int .i64 k/\ListSo prR 96 rdPr w wr X s.word.2 q p k v) (fun _ i _=>n.toNat - (intOf i).toNat)
    case atStart=>exact ⟨0,by simpa using h1,rfl,No,OwnAt.nil _ _ _ _ _,fun _ h=>h.elim,H2.out,Hk1.out.orl⟩
    case round =>
      obtain ⟨k,hk,rfl,hso⟩:=hrel
      have q3:(0:Int)<=(k:Int):=by omega
      by_cases hlt:(k:Int)<n
      · obtain ⟨E,hown,hE,hr,hkp⟩:=hso
        have Hsz:=Lib.hid hkp.size
        have Hlen:=Lib.hid (rdN_len rdPr k s.word.2)
        have Hown:=Lib.hid hown
        have HE:=Lib.hid hE
        have Hr:=Lib.hid hr
        have Hkp:=Lib.hid hkp
        clear hown hE hr hkp
        go_wp2_with fail
        refine (rir_peer _ X _ q p Hr.out).mono ?_
        rintro e w1 ⟨rfl,h1,hk1⟩
        have H1:=Lib.hid h1
        have Hk1:=Lib.hid hk1
        have Hown1:=Lib.hid ((Hown.out.kp hk1 (fun b hb h=>absurd (HE.out b hb).1 (by unfold Two at h;omega)) (fun b hb h=>absurd hb (by unfold Two at h;unfold From;omega))).alloc (.cells #[.int .i64 (i64of (rdPr (rdN rdPr k s.word.2).2).1.a),.int .i64 (i64of (rdPr (rdN rdPr k s.word.2).2).1.b)] 96))
        have Hrel:=Lib.hid (show (prR).rel (w1.alloc (.cells #[.int .i64 (i64of (rdPr (rdN rdPr k s.word.2).2).1.a),.int .i64 (i64of (rdPr (rdN rdPr k s.word.2).2).1.b)] 96)) E (rdPr (rdN rdPr k s.word.2).2).1 [.int .i64 (i64of (rdPr (rdN rdPr k s.word.2).2).1.a),.int .i64 (i64of (rdPr (rdN rdPr k s.word.2).2).1.b)] from rfl)
        have hsz1:=hk1.size
        have HE1:=Lib.hid (show ∀b,E b->w.heap.size<=b/\b<w1.heap.size from fun b hb=>⟨(HE.out b hb).1,Nat.lt_of_lt_of_le (HE.out b hb).2 hsz1⟩)
        clear h1 hk1
        go_wp2_with (at_builtin;(refine wpList_append_rep (R:=prR) (E:=E) (O:=From w.heap.size) (bytes:=16) rfl _ _ rfl Tryz.elr_peer (by decide) rfl Hown1.out _ _ _ [(rdPr (rdN rdPr k s.word.2).2).1] rfl rfl (Source.one (cs:=[.int .i64 (i64of (rdPr (rdN rdPr k s.word.2).2).1.a),.int .i64 (i64of (rdPr (rdN rdPr k s.word.2).2).1.b)]) Hrel.out) ?_ ?_ ?_ ?_ ?_);(· exact fun b hb=>by have:=HE1.out b hb;simp;omega);(· exact fun b hb=>by have:=Hsz.out;simp at hb;unfold From;omega);(· (have:=Hlen.out;simp;omega));(· (have:=Hlen.out;simp;omega));(intro b' w2 hown2 hkp2 hat2))
        have hk2:Kp (From w.heap.size) w1 w2:=((Kp.refl _ w1).alloc _).trans (hkp2.mono fun b hb h=>(Hown1.out.blk h).2.1)
        have Hso:=Lib.hid (ListSo.next (s:=s.word.2) Hsz.out HE1.out hown2 H1.out HX.out Hkp.out Hk1.out hk2)
        clear hown2 hkp2 hat2 hk2
        go_wp2_with fail
        go_roundw
        case rel=>exact ⟨k+1,by omega,by go_num,Hso.out⟩
        case measure=>simp [intOf];omega
      · have Hso:=Lib.hid hso
        have Hkn:=Lib.hid (show n.toNat=k by omega)
        clear hso
        go_wp2_with fail
        go_ret
        rw [Hgood.out,Hkn.out]
        exact ⟨_,rfl,Hso.out.done⟩
theorem Tryz.elr_way:elemB Tryz.prog 29 98 3 24=true:=by kernel_rfl
set_option maxHeartbeats 1000000 in
theorem rir_list_way (w : World) (X : Nat -> Prop) (s : RS) (q p : Nat) (h : RirAt w X s q p) :
    Calls Tryz.prog 130 #[.pointer (some ⟨q,0,none⟩),.func (.func 131) #[.pointer (some ⟨q,0,none⟩)] #[]] w fun e w'=>∃v,e = .returned v/\SliceAt wyR w' (From w.heap.size) (rdList rdWy s).1 v/\RirAt w' X (rdList rdWy s).2 q p/\Kp (Two q p) w w':=by
  obtain ⟨hq,hp,hpq⟩:=h.lt
  have h0:=h.c0
  have H:=Lib.hid h
  have HX:=Lib.hid h.off
  clear h hpq
  obtain ⟨n,hn⟩:∃n,n=i64of s.word.1:=⟨_,rfl⟩
  have Hn:=Lib.hid hn
  have main:Calls Tryz.prog 148 #[.pointer (some ⟨p,0,none⟩)] w fun e w'=>e = .returned (.int .i64 n)/\RirAt w' X s.word.2 q p/\Kp (Two q p) w w':=by rw [hn];exact Num_r w X s q p H.out
  have Hmain:=Lib.hid main
  clear hn main
  by_cases hbad:n<0\/200<n\/((s.word.2.left:Nat):Int)<n
  · have Hbad:=Lib.hid (rd_bad (rd:=rdWy) Hn.out hbad)
    have t1:(n != 0)=true:=by simp;omega
    have fin:∀w2 v,v = .slice none 0 0->RirAt w2 X (s.word.2.1,true) q p->Kp (Two q p) w w2->∃v',Ending.returned v = .returned v'/\SliceAt wyR w2 (From w.heap.size) (rdList rdWy s).1 v'/\RirAt w2 X (rdList rdWy s).2 q p/\Kp (Two q p) w w2:=by
      intro w2 v hv hr hk
      rw [Hbad.out,hv]
      exact ⟨_,rfl,SliceAt.nil _ _ _,hr,hk⟩
    have Fin:=Lib.hid fin
    clear fin
    by_cases h1:n<0
    · clear hbad
      go_enter Tryz.func130,Tryz.ntmps130
      go_wp2_with fail
      refine Hmain.out.mono ?_
      rintro e w1 ⟨rfl,h2,hk1⟩
      have d0:=h2.c1
      have d1:=h2.fz 1
      have H2:=Lib.hid h2
      have Hk1:=Lib.hid hk1
      clear h2 hk1
      go_wp2_with fail
      all_goals
        go_ret
        exact Fin.out _ _ rfl (H2.out.long true) (Hk1.out.trans ((Kp.set1 _ _ _ _).mono fun _ _ e=>.inl e))
    · by_cases h3:200<n
      · clear hbad
        go_enter Tryz.func130,Tryz.ntmps130
        go_wp2_with fail
        refine Hmain.out.mono ?_
        rintro e w1 ⟨rfl,h2,hk1⟩
        have d0:=h2.c1
        have d1:=h2.fz 1
        have H2:=Lib.hid h2
        have Hk1:=Lib.hid hk1
        clear h2 hk1
        go_wp2_with fail
        all_goals
          go_ret
          exact Fin.out _ _ rfl (H2.out.long true) (Hk1.out.trans ((Kp.set1 _ _ _ _).mono fun _ _ e=>.inl e))
      · have h4:((s.word.2.left:Nat):Int)<n:=by omega
        clear hbad
        go_enter Tryz.func130,Tryz.ntmps130
        go_wp2_with fail
        refine Hmain.out.mono ?_
        rintro e w1 ⟨rfl,h2,hk1⟩
        have d0:=h2.c1
        have d1:=h2.fz 1
        have d2:=h2.c0
        have H2:=Lib.hid h2
        have Hk1:=Lib.hid hk1
        clear h2 hk1
        go_wp2_with fail
        refine (Left_r _ X _ q p H2.out).mono ?_
        rintro e w1 ⟨rfl,rfl⟩
        go_wp2_with fail
        all_goals
          go_ret
          exact Fin.out _ _ rfl (H2.out.long true) (Hk1.out.trans ((Kp.set1 _ _ _ _).mono fun _ _ e=>.inl e))
  · have Hgood:=Lib.hid (rd_good (rd:=rdWy) Hn.out hbad)
    have h1:0<=n:=by omega
    have h2:n<=200:=by omega
    have h3:n<=((s.word.2.left:Nat):Int):=by omega
    have h4:¬n<0:=by omega
    have h5:¬200<n:=by omega
    have h6:¬((s.word.2.left:Nat):Int)<n:=by omega
    clear hbad
    go_enter Tryz.func130,Tryz.ntmps130
    go_wp2_with fail
    refine Hmain.out.mono ?_
    rintro e w1 ⟨rfl,h7,hk1⟩
    have d2:=h7.c0
    have H2:=Lib.hid h7
    have Hk1:=Lib.hid hk1
    clear h7 hk1
    go_wp2_with fail
    refine (Left_r _ X _ q p H2.out).mono ?_
    rintro e w1 ⟨rfl,rfl⟩
    clear d2
    go_wp2_with fail
    go_loopw [6,39] (fun v i wr=>∃k:Nat,(k:Int)<=n/\i = .int .i64 k/\ListSo wyR 98 rdWy w wr X s.word.2 q p k v) (fun _ i _=>n.toNat - (intOf i).toNat)
    case atStart=>exact ⟨0,by simpa using h1,rfl,No,OwnAt.nil _ _ _ _ _,fun _ h=>h.elim,H2.out,Hk1.out.orl⟩
    case round =>
      obtain ⟨k,hk,rfl,hso⟩:=hrel
      have q3:(0:Int)<=(k:Int):=by omega
      by_cases hlt:(k:Int)<n
      · obtain ⟨E,hown,hE,hr,hkp⟩:=hso
        have Hsz:=Lib.hid hkp.size
        have Hlen:=Lib.hid (rdN_len rdWy k s.word.2)
        have Hown:=Lib.hid hown
        have HE:=Lib.hid hE
        have Hr:=Lib.hid hr
        have Hkp:=Lib.hid hkp
        clear hown hE hr hkp
        go_wp2_with fail
        refine (rir_way _ X _ q p Hr.out).mono ?_
        rintro e w1 ⟨rfl,h1,hk1⟩
        have H1:=Lib.hid h1
        have Hk1:=Lib.hid hk1
        have Hown1:=Lib.hid ((Hown.out.kp hk1 (fun b hb h=>absurd (HE.out b hb).1 (by unfold Two at h;omega)) (fun b hb h=>absurd hb (by unfold Two at h;unfold From;omega))).alloc (.cells #[.int .i64 (i64of (rdWy (rdN rdWy k s.word.2).2).1.fro),.int .i64 (i64of (rdWy (rdN rdWy k s.word.2).2).1.to),.int .i64 (i64of (rdWy (rdN rdWy k s.word.2).2).1.via)] 98))
        have Hrel:=Lib.hid (show (wyR).rel (w1.alloc (.cells #[.int .i64 (i64of (rdWy (rdN rdWy k s.word.2).2).1.fro),.int .i64 (i64of (rdWy (rdN rdWy k s.word.2).2).1.to),.int .i64 (i64of (rdWy (rdN rdWy k s.word.2).2).1.via)] 98)) E (rdWy (rdN rdWy k s.word.2).2).1 [.int .i64 (i64of (rdWy (rdN rdWy k s.word.2).2).1.fro),.int .i64 (i64of (rdWy (rdN rdWy k s.word.2).2).1.to),.int .i64 (i64of (rdWy (rdN rdWy k s.word.2).2).1.via)] from rfl)
        have hsz1:=hk1.size
        have HE1:=Lib.hid (show ∀b,E b->w.heap.size<=b/\b<w1.heap.size from fun b hb=>⟨(HE.out b hb).1,Nat.lt_of_lt_of_le (HE.out b hb).2 hsz1⟩)
        clear h1 hk1
        go_wp2_with (at_builtin;(refine wpList_append_rep (R:=wyR) (E:=E) (O:=From w.heap.size) (bytes:=24) rfl _ _ rfl Tryz.elr_way (by decide) rfl Hown1.out _ _ _ [(rdWy (rdN rdWy k s.word.2).2).1] rfl rfl (Source.one (cs:=[.int .i64 (i64of (rdWy (rdN rdWy k s.word.2).2).1.fro),.int .i64 (i64of (rdWy (rdN rdWy k s.word.2).2).1.to),.int .i64 (i64of (rdWy (rdN rdWy k s.word.2).2).1.via)]) Hrel.out) ?_ ?_ ?_ ?_ ?_);(· exact fun b hb=>by have:=HE1.out b hb;simp;omega);(· exact fun b hb=>by have:=Hsz.out;simp at hb;unfold From;omega);(· (have:=Hlen.out;simp;omega));(· (have:=Hlen.out;simp;omega));(intro b' w2 hown2 hkp2 hat2))
        have hk2:Kp (From w.heap.size) w1 w2:=((Kp.refl _ w1).alloc _).trans (hkp2.mono fun b hb h=>(Hown1.out.blk h).2.1)
        have Hso:=Lib.hid (ListSo.next (s:=s.word.2) Hsz.out HE1.out hown2 H1.out HX.out Hkp.out Hk1.out hk2)
        clear hown2 hkp2 hat2 hk2
        go_wp2_with fail
        go_roundw
        case rel=>exact ⟨k+1,by omega,by go_num,Hso.out⟩
        case measure=>simp [intOf];omega
      · have Hso:=Lib.hid hso
        have Hkn:=Lib.hid (show n.toNat=k by omega)
        clear hso
        go_wp2_with fail
        go_ret
        rw [Hgood.out,Hkn.out]
        exact ⟨_,rfl,Hso.out.done⟩
theorem Tryz.elr_rule:elemB Tryz.prog 139 116 12 96=true:=by kernel_rfl
set_option maxHeartbeats 1000000 in
theorem rir_list_rule (w : World) (X : Nat -> Prop) (s : RS) (q p : Nat) (h : RirAt w X s q p) :
    Calls Tryz.prog 158 #[.pointer (some ⟨q,0,none⟩),.func (.func 159) #[.pointer (some ⟨q,0,none⟩)] #[]] w fun e w'=>∃v,e = .returned v/\SliceAt rlR w' (From w.heap.size) (rdList rdRl s).1 v/\RirAt w' X (rdList rdRl s).2 q p/\Kp (Two q p) w w':=by
  obtain ⟨hq,hp,hpq⟩:=h.lt
  have h0:=h.c0
  have H:=Lib.hid h
  have HX:=Lib.hid h.off
  clear h hpq
  obtain ⟨n,hn⟩:∃n,n=i64of s.word.1:=⟨_,rfl⟩
  have Hn:=Lib.hid hn
  have main:Calls Tryz.prog 148 #[.pointer (some ⟨p,0,none⟩)] w fun e w'=>e = .returned (.int .i64 n)/\RirAt w' X s.word.2 q p/\Kp (Two q p) w w':=by rw [hn];exact Num_r w X s q p H.out
  have Hmain:=Lib.hid main
  clear hn main
  by_cases hbad:n<0\/200<n\/((s.word.2.left:Nat):Int)<n
  · have Hbad:=Lib.hid (rd_bad (rd:=rdRl) Hn.out hbad)
    have t1:(n != 0)=true:=by simp;omega
    have fin:∀w2 v,v = .slice none 0 0->RirAt w2 X (s.word.2.1,true) q p->Kp (Two q p) w w2->∃v',Ending.returned v = .returned v'/\SliceAt rlR w2 (From w.heap.size) (rdList rdRl s).1 v'/\RirAt w2 X (rdList rdRl s).2 q p/\Kp (Two q p) w w2:=by
      intro w2 v hv hr hk
      rw [Hbad.out,hv]
      exact ⟨_,rfl,SliceAt.nil _ _ _,hr,hk⟩
    have Fin:=Lib.hid fin
    clear fin
    by_cases h1:n<0
    · clear hbad
      go_enter Tryz.func158,Tryz.ntmps158
      go_wp2_with fail
      refine Hmain.out.mono ?_
      rintro e w1 ⟨rfl,h2,hk1⟩
      have d0:=h2.c1
      have d1:=h2.fz 1
      have H2:=Lib.hid h2
      have Hk1:=Lib.hid hk1
      clear h2 hk1
      go_wp2_with fail
      all_goals
        go_ret
        exact Fin.out _ _ rfl (H2.out.long true) (Hk1.out.trans ((Kp.set1 _ _ _ _).mono fun _ _ e=>.inl e))
    · by_cases h3:200<n
      · clear hbad
        go_enter Tryz.func158,Tryz.ntmps158
        go_wp2_with fail
        refine Hmain.out.mono ?_
        rintro e w1 ⟨rfl,h2,hk1⟩
        have d0:=h2.c1
        have d1:=h2.fz 1
        have H2:=Lib.hid h2
        have Hk1:=Lib.hid hk1
        clear h2 hk1
        go_wp2_with fail
        all_goals
          go_ret
          exact Fin.out _ _ rfl (H2.out.long true) (Hk1.out.trans ((Kp.set1 _ _ _ _).mono fun _ _ e=>.inl e))
      · have h4:((s.word.2.left:Nat):Int)<n:=by omega
        clear hbad
        go_enter Tryz.func158,Tryz.ntmps158
        go_wp2_with fail
        refine Hmain.out.mono ?_
        rintro e w1 ⟨rfl,h2,hk1⟩
        have d0:=h2.c1
        have d1:=h2.fz 1
        have d2:=h2.c0
        have H2:=Lib.hid h2
        have Hk1:=Lib.hid hk1
        clear h2 hk1
        go_wp2_with fail
        refine (Left_r _ X _ q p H2.out).mono ?_
        rintro e w1 ⟨rfl,rfl⟩
        go_wp2_with fail
        all_goals
          go_ret
          exact Fin.out _ _ rfl (H2.out.long true) (Hk1.out.trans ((Kp.set1 _ _ _ _).mono fun _ _ e=>.inl e))
  · have Hgood:=Lib.hid (rd_good (rd:=rdRl) Hn.out hbad)
    have h1:0<=n:=by omega
    have h2:n<=200:=by omega
    have h3:n<=((s.word.2.left:Nat):Int):=by omega
    have h4:¬n<0:=by omega
    have h5:¬200<n:=by omega
    have h6:¬((s.word.2.left:Nat):Int)<n:=by omega
    clear hbad
    go_enter Tryz.func158,Tryz.ntmps158
    go_wp2_with fail
    refine Hmain.out.mono ?_
    rintro e w1 ⟨rfl,h7,hk1⟩
    have d2:=h7.c0
    have H2:=Lib.hid h7
    have Hk1:=Lib.hid hk1
    clear h7 hk1
    go_wp2_with fail
    refine (Left_r _ X _ q p H2.out).mono ?_
    rintro e w1 ⟨rfl,rfl⟩
    clear d2
    go_wp2_with fail
    go_loopw [6,39] (fun v i wr=>∃k:Nat,(k:Int)<=n/\i = .int .i64 k/\ListSo rlR 116 rdRl w wr X s.word.2 q p k v) (fun _ i _=>n.toNat - (intOf i).toNat)
    case atStart=>exact ⟨0,by simpa using h1,rfl,No,OwnAt.nil _ _ _ _ _,fun _ h=>h.elim,H2.out,Hk1.out.orl⟩
    case round =>
      obtain ⟨k,hk,rfl,hso⟩:=hrel
      have q3:(0:Int)<=(k:Int):=by omega
      by_cases hlt:(k:Int)<n
      · obtain ⟨E,hown,hE,hr,hkp⟩:=hso
        have Hsz:=Lib.hid hkp.size
        have Hlen:=Lib.hid (rdN_len rdRl k s.word.2)
        have Hown:=Lib.hid hown
        have HE:=Lib.hid hE
        have Hr:=Lib.hid hr
        have Hkp:=Lib.hid hkp
        clear hown hE hr hkp
        go_wp2_with fail
        refine (rir_rule _ X _ q p Hr.out).mono ?_
        rintro e w1 ⟨rfl,h1,hk1⟩
        have H1:=Lib.hid h1
        have Hk1:=Lib.hid hk1
        have Hown1:=Lib.hid ((Hown.out.kp hk1 (fun b hb h=>absurd (HE.out b hb).1 (by unfold Two at h;omega)) (fun b hb h=>absurd hb (by unfold Two at h;unfold From;omega))).alloc (.cells #[.int .i64 (i64of (rdRl (rdN rdRl k s.word.2).2).1.prio),.int .u64 ((rdRl (rdN rdRl k s.word.2).2).1.mat.value.hi).toNat,.int .u64 ((rdRl (rdN rdRl k s.word.2).2).1.mat.value.lo).toNat,.int .u64 ((rdRl (rdN rdRl k s.word.2).2).1.mat.care.hi).toNat,.int .u64 ((rdRl (rdN rdRl k s.word.2).2).1.mat.care.lo).toNat,.int .i64 (i64of (rdRl (rdN rdRl k s.word.2).2).1.act.kind),.int .i64 (i64of (rdRl (rdN rdRl k s.word.2).2).1.act.port),.int .i64 (i64of (rdRl (rdN rdRl k s.word.2).2).1.act.table),.int .u64 ((rdRl (rdN rdRl k s.word.2).2).1.act.set.value.hi).toNat,.int .u64 ((rdRl (rdN rdRl k s.word.2).2).1.act.set.value.lo).toNat,.int .u64 ((rdRl (rdN rdRl k s.word.2).2).1.act.set.care.hi).toNat,.int .u64 ((rdRl (rdN rdRl k s.word.2).2).1.act.set.care.lo).toNat] 116))
        have Hrel:=Lib.hid (show (rlR).rel (w1.alloc (.cells #[.int .i64 (i64of (rdRl (rdN rdRl k s.word.2).2).1.prio),.int .u64 ((rdRl (rdN rdRl k s.word.2).2).1.mat.value.hi).toNat,.int .u64 ((rdRl (rdN rdRl k s.word.2).2).1.mat.value.lo).toNat,.int .u64 ((rdRl (rdN rdRl k s.word.2).2).1.mat.care.hi).toNat,.int .u64 ((rdRl (rdN rdRl k s.word.2).2).1.mat.care.lo).toNat,.int .i64 (i64of (rdRl (rdN rdRl k s.word.2).2).1.act.kind),.int .i64 (i64of (rdRl (rdN rdRl k s.word.2).2).1.act.port),.int .i64 (i64of (rdRl (rdN rdRl k s.word.2).2).1.act.table),.int .u64 ((rdRl (rdN rdRl k s.word.2).2).1.act.set.value.hi).toNat,.int .u64 ((rdRl (rdN rdRl k s.word.2).2).1.act.set.value.lo).toNat,.int .u64 ((rdRl (rdN rdRl k s.word.2).2).1.act.set.care.hi).toNat,.int .u64 ((rdRl (rdN rdRl k s.word.2).2).1.act.set.care.lo).toNat] 116)) E (rdRl (rdN rdRl k s.word.2).2).1 [.int .i64 (i64of (rdRl (rdN rdRl k s.word.2).2).1.prio),.int .u64 ((rdRl (rdN rdRl k s.word.2).2).1.mat.value.hi).toNat,.int .u64 ((rdRl (rdN rdRl k s.word.2).2).1.mat.value.lo).toNat,.int .u64 ((rdRl (rdN rdRl k s.word.2).2).1.mat.care.hi).toNat,.int .u64 ((rdRl (rdN rdRl k s.word.2).2).1.mat.care.lo).toNat,.int .i64 (i64of (rdRl (rdN rdRl k s.word.2).2).1.act.kind),.int .i64 (i64of (rdRl (rdN rdRl k s.word.2).2).1.act.port),.int .i64 (i64of (rdRl (rdN rdRl k s.word.2).2).1.act.table),.int .u64 ((rdRl (rdN rdRl k s.word.2).2).1.act.set.value.hi).toNat,.int .u64 ((rdRl (rdN rdRl k s.word.2).2).1.act.set.value.lo).toNat,.int .u64 ((rdRl (rdN rdRl k s.word.2).2).1.act.set.care.hi).toNat,.int .u64 ((rdRl (rdN rdRl k s.word.2).2).1.act.set.care.lo).toNat] from rfl)
        have hsz1:=hk1.size
        have HE1:=Lib.hid (show ∀b,E b->w.heap.size<=b/\b<w1.heap.size from fun b hb=>⟨(HE.out b hb).1,Nat.lt_of_lt_of_le (HE.out b hb).2 hsz1⟩)
        clear h1 hk1
        go_wp2_with (at_builtin;(refine wpList_append_rep (R:=rlR) (E:=E) (O:=From w.heap.size) (bytes:=96) rfl _ _ rfl Tryz.elr_rule (by decide) rfl Hown1.out _ _ _ [(rdRl (rdN rdRl k s.word.2).2).1] rfl rfl (Source.one (cs:=[.int .i64 (i64of (rdRl (rdN rdRl k s.word.2).2).1.prio),.int .u64 ((rdRl (rdN rdRl k s.word.2).2).1.mat.value.hi).toNat,.int .u64 ((rdRl (rdN rdRl k s.word.2).2).1.mat.value.lo).toNat,.int .u64 ((rdRl (rdN rdRl k s.word.2).2).1.mat.care.hi).toNat,.int .u64 ((rdRl (rdN rdRl k s.word.2).2).1.mat.care.lo).toNat,.int .i64 (i64of (rdRl (rdN rdRl k s.word.2).2).1.act.kind),.int .i64 (i64of (rdRl (rdN rdRl k s.word.2).2).1.act.port),.int .i64 (i64of (rdRl (rdN rdRl k s.word.2).2).1.act.table),.int .u64 ((rdRl (rdN rdRl k s.word.2).2).1.act.set.value.hi).toNat,.int .u64 ((rdRl (rdN rdRl k s.word.2).2).1.act.set.value.lo).toNat,.int .u64 ((rdRl (rdN rdRl k s.word.2).2).1.act.set.care.hi).toNat,.int .u64 ((rdRl (rdN rdRl k s.word.2).2).1.act.set.care.lo).toNat]) Hrel.out) ?_ ?_ ?_ ?_ ?_);(· exact fun b hb=>by have:=HE1.out b hb;simp;omega);(· exact fun b hb=>by have:=Hsz.out;simp at hb;unfold From;omega);(· (have:=Hlen.out;simp;omega));(· (have:=Hlen.out;simp;omega));(intro b' w2 hown2 hkp2 hat2))
        have hk2:Kp (From w.heap.size) w1 w2:=((Kp.refl _ w1).alloc _).trans (hkp2.mono fun b hb h=>(Hown1.out.blk h).2.1)
        have Hso:=Lib.hid (ListSo.next (s:=s.word.2) Hsz.out HE1.out hown2 H1.out HX.out Hkp.out Hk1.out hk2)
        clear hown2 hkp2 hat2 hk2
        go_wp2_with fail
        go_roundw
        case rel=>exact ⟨k+1,by omega,by go_num,Hso.out⟩
        case measure=>simp [intOf];omega
      · have Hso:=Lib.hid hso
        have Hkn:=Lib.hid (show n.toNat=k by omega)
        clear hso
        go_wp2_with fail
        go_ret
        rw [Hgood.out,Hkn.out]
        exact ⟨_,rfl,Hso.out.done⟩
theorem rir_rules (w:World) (X:Nat->Prop) (s:RS) (q p:Nat) (h:RirAt w X s q p) :
  Calls Tryz.prog 153 #[.pointer (some ⟨q,0,none⟩)] w fun e w'=>∃v,e = .returned v/\SliceAt rlR w' (From w.heap.size) (rdRules s).1 v/\RirAt w' X (rdRules s).2 q p/\Kp (Two q p) w w':=by
 have H:=Lib.hid h
 clear h
 go_enter Tryz.func153,Tryz.ntmps153
 go_wp2_with fail
 refine (rir_list_rule w X s q p H.out).mono ?_
 rintro e w1 ⟨v,rfl,h1,h2,h3⟩
 have H1:=Lib.hid h1
 have H2:=Lib.hid h2
 have H3:=Lib.hid h3
 clear h1 h2 h3
 go_wp2_with fail
 go_ret
 exact ⟨v,rfl,H1.out,H2.out,H3.out⟩
theorem Tryz.elr_ports:elemB Tryz.prog 25 128 1 24=true:=by kernel_rfl
set_option maxHeartbeats 1000000 in
theorem rir_list_ports (w : World) (X : Nat -> Prop) (s : RS) (q p : Nat) (h : RirAt w X s q p) :
    Calls Tryz.prog 125 #[.pointer (some ⟨q,0,none⟩),.func (.func 126) #[.pointer (some ⟨q,0,none⟩)] #[]] w fun e w'=>∃v,e = .returned v/\SliceAt ptR.slice w' (From w.heap.size) (rdList rdPorts s).1 v/\RirAt w' X (rdList rdPorts s).2 q p/\Kp (Two q p) w w':=by
  obtain ⟨hq,hp,hpq⟩:=h.lt
  have h0:=h.c0
  have H:=Lib.hid h
  have HX:=Lib.hid h.off
  clear h hpq
  obtain ⟨n,hn⟩:∃n,n=i64of s.word.1:=⟨_,rfl⟩
  have Hn:=Lib.hid hn
  have main:Calls Tryz.prog 148 #[.pointer (some ⟨p,0,none⟩)] w fun e w'=>e = .returned (.int .i64 n)/\RirAt w' X s.word.2 q p/\Kp (Two q p) w w':=by rw [hn];exact Num_r w X s q p H.out
  have Hmain:=Lib.hid main
  clear hn main
  by_cases hbad:n<0\/200<n\/((s.word.2.left:Nat):Int)<n
  · have Hbad:=Lib.hid (rd_bad (rd:=rdPorts) Hn.out hbad)
    have t1:(n != 0)=true:=by simp;omega
    have fin:∀w2 v,v = .slice none 0 0->RirAt w2 X (s.word.2.1,true) q p->Kp (Two q p) w w2->∃v',Ending.returned v = .returned v'/\SliceAt ptR.slice w2 (From w.heap.size) (rdList rdPorts s).1 v'/\RirAt w2 X (rdList rdPorts s).2 q p/\Kp (Two q p) w w2:=by
      intro w2 v hv hr hk
      rw [Hbad.out,hv]
      exact ⟨_,rfl,SliceAt.nil _ _ _,hr,hk⟩
    have Fin:=Lib.hid fin
    clear fin
    by_cases h1:n<0
    · clear hbad
      go_enter Tryz.func125,Tryz.ntmps125
      go_wp2_with fail
      refine Hmain.out.mono ?_
      rintro e w1 ⟨rfl,h2,hk1⟩
      have d0:=h2.c1
      have d1:=h2.fz 1
      have H2:=Lib.hid h2
      have Hk1:=Lib.hid hk1
      clear h2 hk1
      go_wp2_with fail
      all_goals
        go_ret
        exact Fin.out _ _ rfl (H2.out.long true) (Hk1.out.trans ((Kp.set1 _ _ _ _).mono fun _ _ e=>.inl e))
    · by_cases h3:200<n
      · clear hbad
        go_enter Tryz.func125,Tryz.ntmps125
        go_wp2_with fail
        refine Hmain.out.mono ?_
        rintro e w1 ⟨rfl,h2,hk1⟩
        have d0:=h2.c1
        have d1:=h2.fz 1
        have H2:=Lib.hid h2
        have Hk1:=Lib.hid hk1
        clear h2 hk1
        go_wp2_with fail
        all_goals
          go_ret
          exact Fin.out _ _ rfl (H2.out.long true) (Hk1.out.trans ((Kp.set1 _ _ _ _).mono fun _ _ e=>.inl e))
      · have h4:((s.word.2.left:Nat):Int)<n:=by omega
        clear hbad
        go_enter Tryz.func125,Tryz.ntmps125
        go_wp2_with fail
        refine Hmain.out.mono ?_
        rintro e w1 ⟨rfl,h2,hk1⟩
        have d0:=h2.c1
        have d1:=h2.fz 1
        have d2:=h2.c0
        have H2:=Lib.hid h2
        have Hk1:=Lib.hid hk1
        clear h2 hk1
        go_wp2_with fail
        refine (Left_r _ X _ q p H2.out).mono ?_
        rintro e w1 ⟨rfl,rfl⟩
        go_wp2_with fail
        all_goals
          go_ret
          exact Fin.out _ _ rfl (H2.out.long true) (Hk1.out.trans ((Kp.set1 _ _ _ _).mono fun _ _ e=>.inl e))
  · have Hgood:=Lib.hid (rd_good (rd:=rdPorts) Hn.out hbad)
    have h1:0<=n:=by omega
    have h2:n<=200:=by omega
    have h3:n<=((s.word.2.left:Nat):Int):=by omega
    have h4:¬n<0:=by omega
    have h5:¬200<n:=by omega
    have h6:¬((s.word.2.left:Nat):Int)<n:=by omega
    clear hbad
    go_enter Tryz.func125,Tryz.ntmps125
    go_wp2_with fail
    refine Hmain.out.mono ?_
    rintro e w1 ⟨rfl,h7,hk1⟩
    have d2:=h7.c0
    have H2:=Lib.hid h7
    have Hk1:=Lib.hid hk1
    clear h7 hk1
    go_wp2_with fail
    refine (Left_r _ X _ q p H2.out).mono ?_
    rintro e w1 ⟨rfl,rfl⟩
    clear d2
    go_wp2_with fail
    go_loopw [6,39] (fun v i wr=>∃k:Nat,(k:Int)<=n/\i = .int .i64 k/\ListSo ptR.slice 128 rdPorts w wr X s.word.2 q p k v) (fun _ i _=>n.toNat - (intOf i).toNat)
    case atStart=>exact ⟨0,by simpa using h1,rfl,No,OwnAt.nil _ _ _ _ _,fun _ h=>h.elim,H2.out,Hk1.out.orl⟩
    case round =>
      obtain ⟨k,hk,rfl,hso⟩:=hrel
      have q3:(0:Int)<=(k:Int):=by omega
      by_cases hlt:(k:Int)<n
      · obtain ⟨E,hown,hE,hr,hkp⟩:=hso
        have Hsz:=Lib.hid hkp.size
        have Hlen:=Lib.hid (rdN_len rdPorts k s.word.2)
        have Hown:=Lib.hid hown
        have HE:=Lib.hid hE
        have Hr:=Lib.hid hr
        have Hkp:=Lib.hid hkp
        clear hown hE hr hkp
        go_wp2_with fail
        refine (rir_ports _ X _ q p Hr.out).mono ?_
        rintro e w1 ⟨u,rfl,hu,h1,hk1⟩
        obtain ⟨A3,n3,c3,rfl,_,_,_⟩:=hu.form'
        have H1:=Lib.hid h1
        have Hk1:=Lib.hid hk1
        have hsz1:=hk1.size
        have Hown1:=Lib.hid (((Hown.out.kp hk1 (fun b hb h=>absurd (HE.out b hb).1 (by unfold Two at h;omega)) (fun b hb h=>absurd hb (by unfold Two at h;unfold From;omega))).monoE (E':=fun b=>E b\/(wr.heap.size<=b/\b<w1.heap.size)) (fun b _ h=>.inl h) (fun g hg h=>h.elim (Hown.out.blk hg).2.2 (fun h=>absurd (Hown.out.blk hg).1 (by omega)))).alloc (.cells #[.slice A3 n3 c3] 128))
        have Hrel:=Lib.hid (show (ptR.slice).rel (w1.alloc (.cells #[.slice A3 n3 c3] 128)) (fun b=>E b\/(wr.heap.size<=b/\b<w1.heap.size)) (rdPorts (rdN rdPorts k s.word.2).2).1 [.slice A3 n3 c3] from ⟨_,rfl,(hu.mono (fun b hlt hb=>.inr ⟨hb,hlt⟩)).kp ((Kp.refl No w1).alloc _) (fun _ _=>id)⟩)
        clear hu
        have HE1:=Lib.hid (show ∀b,(fun b=>E b\/(wr.heap.size<=b/\b<w1.heap.size)) b->w.heap.size<=b/\b<w1.heap.size from fun b hb=>hb.elim (fun hb=>⟨(HE.out b hb).1,Nat.lt_of_lt_of_le (HE.out b hb).2 hsz1⟩) (fun hb=>⟨Nat.le_trans Hsz.out hb.1,hb.2⟩))
        clear h1 hk1
        go_wp2_with (at_builtin;(refine wpList_append_rep (R:=ptR.slice) (E:=(fun b=>E b\/(wr.heap.size<=b/\b<w1.heap.size))) (O:=From w.heap.size) (bytes:=24) rfl _ _ rfl Tryz.elr_ports (by decide) rfl Hown1.out _ _ _ [(rdPorts (rdN rdPorts k s.word.2).2).1] rfl rfl (Source.one (cs:=[.slice A3 n3 c3]) Hrel.out) ?_ ?_ ?_ ?_ ?_);(· exact fun b hb=>by have:=HE1.out b hb;simp;omega);(· exact fun b hb=>by have:=Hsz.out;simp at hb;unfold From;omega);(· (have:=Hlen.out;simp;omega));(· (have:=Hlen.out;simp;omega));(intro b' w2 hown2 hkp2 hat2))
        have hk2:Kp (From w.heap.size) w1 w2:=((Kp.refl _ w1).alloc _).trans (hkp2.mono fun b hb h=>(Hown1.out.blk h).2.1)
        have Hso:=Lib.hid (ListSo.next (s:=s.word.2) Hsz.out HE1.out hown2 H1.out HX.out Hkp.out Hk1.out hk2)
        clear hown2 hkp2 hat2 hk2
        go_wp2_with fail
        go_roundw
        case rel=>exact ⟨k+1,by omega,by go_num,Hso.out⟩
        case measure=>simp [intOf];omega
      · have Hso:=Lib.hid hso
        have Hkn:=Lib.hid (show n.toNat=k by omega)
        clear hso
        go_wp2_with fail
        go_ret
        rw [Hgood.out,Hkn.out]
        exact ⟨_,rfl,Hso.out.done⟩
theorem Tryz.elr_rules:elemB Tryz.prog 100 139 1 24=true:=by kernel_rfl
set_option maxHeartbeats 1000000 in
theorem rir_list_rules (w : World) (X : Nat -> Prop) (s : RS) (q p : Nat) (h : RirAt w X s q p) :
    Calls Tryz.prog 152 #[.pointer (some ⟨q,0,none⟩),.func (.func 153) #[.pointer (some ⟨q,0,none⟩)] #[]] w fun e w'=>∃v,e = .returned v/\SliceAt rlR.slice w' (From w.heap.size) (rdList rdRules s).1 v/\RirAt w' X (rdList rdRules s).2 q p/\Kp (Two q p) w w':=by
  obtain ⟨hq,hp,hpq⟩:=h.lt
  have h0:=h.c0
  have H:=Lib.hid h
  have HX:=Lib.hid h.off
  clear h hpq
  obtain ⟨n,hn⟩:∃n,n=i64of s.word.1:=⟨_,rfl⟩
  have Hn:=Lib.hid hn
  have main:Calls Tryz.prog 148 #[.pointer (some ⟨p,0,none⟩)] w fun e w'=>e = .returned (.int .i64 n)/\RirAt w' X s.word.2 q p/\Kp (Two q p) w w':=by rw [hn];exact Num_r w X s q p H.out
  have Hmain:=Lib.hid main
  clear hn main
  by_cases hbad:n<0\/200<n\/((s.word.2.left:Nat):Int)<n
  · have Hbad:=Lib.hid (rd_bad (rd:=rdRules) Hn.out hbad)
    have t1:(n != 0)=true:=by simp;omega
    have fin:∀w2 v,v = .slice none 0 0->RirAt w2 X (s.word.2.1,true) q p->Kp (Two q p) w w2->∃v',Ending.returned v = .returned v'/\SliceAt rlR.slice w2 (From w.heap.size) (rdList rdRules s).1 v'/\RirAt w2 X (rdList rdRules s).2 q p/\Kp (Two q p) w w2:=by
      intro w2 v hv hr hk
      rw [Hbad.out,hv]
      exact ⟨_,rfl,SliceAt.nil _ _ _,hr,hk⟩
    have Fin:=Lib.hid fin
    clear fin
    by_cases h1:n<0
    · clear hbad
      go_enter Tryz.func152,Tryz.ntmps152
      go_wp2_with fail
      refine Hmain.out.mono ?_
      rintro e w1 ⟨rfl,h2,hk1⟩
      have d0:=h2.c1
      have d1:=h2.fz 1
      have H2:=Lib.hid h2
      have Hk1:=Lib.hid hk1
      clear h2 hk1
      go_wp2_with fail
      all_goals
        go_ret
        exact Fin.out _ _ rfl (H2.out.long true) (Hk1.out.trans ((Kp.set1 _ _ _ _).mono fun _ _ e=>.inl e))
    · by_cases h3:200<n
      · clear hbad
        go_enter Tryz.func152,Tryz.ntmps152
        go_wp2_with fail
        refine Hmain.out.mono ?_
        rintro e w1 ⟨rfl,h2,hk1⟩
        have d0:=h2.c1
        have d1:=h2.fz 1
        have H2:=Lib.hid h2
        have Hk1:=Lib.hid hk1
        clear h2 hk1
        go_wp2_with fail
        all_goals
          go_ret
          exact Fin.out _ _ rfl (H2.out.long true) (Hk1.out.trans ((Kp.set1 _ _ _ _).mono fun _ _ e=>.inl e))
      · have h4:((s.word.2.left:Nat):Int)<n:=by omega
        clear hbad
        go_enter Tryz.func152,Tryz.ntmps152
        go_wp2_with fail
        refine Hmain.out.mono ?_
        rintro e w1 ⟨rfl,h2,hk1⟩
        have d0:=h2.c1
        have d1:=h2.fz 1
        have d2:=h2.c0
        have H2:=Lib.hid h2
        have Hk1:=Lib.hid hk1
        clear h2 hk1
        go_wp2_with fail
        refine (Left_r _ X _ q p H2.out).mono ?_
        rintro e w1 ⟨rfl,rfl⟩
        go_wp2_with fail
        all_goals
          go_ret
          exact Fin.out _ _ rfl (H2.out.long true) (Hk1.out.trans ((Kp.set1 _ _ _ _).mono fun _ _ e=>.inl e))
  · have Hgood:=Lib.hid (rd_good (rd:=rdRules) Hn.out hbad)
    have h1:0<=n:=by omega
    have h2:n<=200:=by omega
    have h3:n<=((s.word.2.left:Nat):Int):=by omega
    have h4:¬n<0:=by omega
    have h5:¬200<n:=by omega
    have h6:¬((s.word.2.left:Nat):Int)<n:=by omega
    clear hbad
    go_enter Tryz.func152,Tryz.ntmps152
    go_wp2_with fail
    refine Hmain.out.mono ?_
    rintro e w1 ⟨rfl,h7,hk1⟩
    have d2:=h7.c0
    have H2:=Lib.hid h7
    have Hk1:=Lib.hid hk1
    clear h7 hk1
    go_wp2_with fail
    refine (Left_r _ X _ q p H2.out).mono ?_
    rintro e w1 ⟨rfl,rfl⟩
    clear d2
    go_wp2_with fail
    go_loopw [6,39] (fun v i wr=>∃k:Nat,(k:Int)<=n/\i = .int .i64 k/\ListSo rlR.slice 139 rdRules w wr X s.word.2 q p k v) (fun _ i _=>n.toNat - (intOf i).toNat)
    case atStart=>exact ⟨0,by simpa using h1,rfl,No,OwnAt.nil _ _ _ _ _,fun _ h=>h.elim,H2.out,Hk1.out.orl⟩
    case round =>
      obtain ⟨k,hk,rfl,hso⟩:=hrel
      have q3:(0:Int)<=(k:Int):=by omega
      by_cases hlt:(k:Int)<n
      · obtain ⟨E,hown,hE,hr,hkp⟩:=hso
        have Hsz:=Lib.hid hkp.size
        have Hlen:=Lib.hid (rdN_len rdRules k s.word.2)
        have Hown:=Lib.hid hown
        have HE:=Lib.hid hE
        have Hr:=Lib.hid hr
        have Hkp:=Lib.hid hkp
        clear hown hE hr hkp
        go_wp2_with fail
        refine (rir_rules _ X _ q p Hr.out).mono ?_
        rintro e w1 ⟨u,rfl,hu,h1,hk1⟩
        obtain ⟨A3,n3,c3,rfl,_,_,_⟩:=hu.form'
        have H1:=Lib.hid h1
        have Hk1:=Lib.hid hk1
        have hsz1:=hk1.size
        have Hown1:=Lib.hid (((Hown.out.kp hk1 (fun b hb h=>absurd (HE.out b hb).1 (by unfold Two at h;omega)) (fun b hb h=>absurd hb (by unfold Two at h;unfold From;omega))).monoE (E':=fun b=>E b\/(wr.heap.size<=b/\b<w1.heap.size)) (fun b _ h=>.inl h) (fun g hg h=>h.elim (Hown.out.blk hg).2.2 (fun h=>absurd (Hown.out.blk hg).1 (by omega)))).alloc (.cells #[.slice A3 n3 c3] 139))
        have Hrel:=Lib.hid (show (rlR.slice).rel (w1.alloc (.cells #[.slice A3 n3 c3] 139)) (fun b=>E b\/(wr.heap.size<=b/\b<w1.heap.size)) (rdRules (rdN rdRules k s.word.2).2).1 [.slice A3 n3 c3] from ⟨_,rfl,(hu.mono (fun b hlt hb=>.inr ⟨hb,hlt⟩)).kp ((Kp.refl No w1).alloc _) (fun _ _=>id)⟩)
        clear hu
        have HE1:=Lib.hid (show ∀b,(fun b=>E b\/(wr.heap.size<=b/\b<w1.heap.size)) b->w.heap.size<=b/\b<w1.heap.size from fun b hb=>hb.elim (fun hb=>⟨(HE.out b hb).1,Nat.lt_of_lt_of_le (HE.out b hb).2 hsz1⟩) (fun hb=>⟨Nat.le_trans Hsz.out hb.1,hb.2⟩))
        clear h1 hk1
        go_wp2_with (at_builtin;(refine wpList_append_rep (R:=rlR.slice) (E:=(fun b=>E b\/(wr.heap.size<=b/\b<w1.heap.size))) (O:=From w.heap.size) (bytes:=24) rfl _ _ rfl Tryz.elr_rules (by decide) rfl Hown1.out _ _ _ [(rdRules (rdN rdRules k s.word.2).2).1] rfl rfl (Source.one (cs:=[.slice A3 n3 c3]) Hrel.out) ?_ ?_ ?_ ?_ ?_);(· exact fun b hb=>by have:=HE1.out b hb;simp;omega);(· exact fun b hb=>by have:=Hsz.out;simp at hb;unfold From;omega);(· (have:=Hlen.out;simp;omega));(· (have:=Hlen.out;simp;omega));(intro b' w2 hown2 hkp2 hat2))
        have hk2:Kp (From w.heap.size) w1 w2:=((Kp.refl _ w1).alloc _).trans (hkp2.mono fun b hb h=>(Hown1.out.blk h).2.1)
        have Hso:=Lib.hid (ListSo.next (s:=s.word.2) Hsz.out HE1.out hown2 H1.out HX.out Hkp.out Hk1.out hk2)
        clear hown2 hkp2 hat2 hk2
        go_wp2_with fail
        go_roundw
        case rel=>exact ⟨k+1,by omega,by go_num,Hso.out⟩
        case measure=>simp [intOf];omega
      · have Hso:=Lib.hid hso
        have Hkn:=Lib.hid (show n.toNat=k by omega)
        clear hso
        go_wp2_with fail
        go_ret
        rw [Hgood.out,Hkn.out]
        exact ⟨_,rfl,Hso.out.done⟩
theorem rir_tables (w:World) (X:Nat->Prop) (s:RS) (q p:Nat) (h:RirAt w X s q p) :
  Calls Tryz.prog 133 #[.pointer (some ⟨q,0,none⟩)] w fun e w'=>∃v,e = .returned v/\SliceAt rlR.slice w' (From w.heap.size) (rdTables s).1 v/\RirAt w' X (rdTables s).2 q p/\Kp (Two q p) w w':=by
 have H:=Lib.hid h
 clear h
 go_enter Tryz.func133,Tryz.ntmps133
 go_wp2_with fail
 refine (rir_list_rules w X s q p H.out).mono ?_
 rintro e w1 ⟨v,rfl,h1,h2,h3⟩
 have H1:=Lib.hid h1
 have H2:=Lib.hid h2
 have H3:=Lib.hid h3
 clear h1 h2 h3
 go_wp2_with fail
 go_ret
 exact ⟨v,rfl,H1.out,H2.out,H3.out⟩
theorem Tryz.elr_tables:elemB Tryz.prog 32 100 1 24=true:=by kernel_rfl
set_option maxHeartbeats 1000000 in
theorem rir_list_tables (w : World) (X : Nat -> Prop) (s : RS) (q p : Nat) (h : RirAt w X s q p) :
    Calls Tryz.prog 132 #[.pointer (some ⟨q,0,none⟩),.func (.func 133) #[.pointer (some ⟨q,0,none⟩)] #[]] w fun e w'=>∃v,e = .returned v/\SliceAt rlR.slice.slice w' (From w.heap.size) (rdList rdTables s).1 v/\RirAt w' X (rdList rdTables s).2 q p/\Kp (Two q p) w w':=by
  obtain ⟨hq,hp,hpq⟩:=h.lt
  have h0:=h.c0
  have H:=Lib.hid h
  have HX:=Lib.hid h.off
  clear h hpq
  obtain ⟨n,hn⟩:∃n,n=i64of s.word.1:=⟨_,rfl⟩
  have Hn:=Lib.hid hn
  have main:Calls Tryz.prog 148 #[.pointer (some ⟨p,0,none⟩)] w fun e w'=>e = .returned (.int .i64 n)/\RirAt w' X s.word.2 q p/\Kp (Two q p) w w':=by rw [hn];exact Num_r w X s q p H.out
  have Hmain:=Lib.hid main
  clear hn main
  by_cases hbad:n<0\/200<n\/((s.word.2.left:Nat):Int)<n
  · have Hbad:=Lib.hid (rd_bad (rd:=rdTables) Hn.out hbad)
    have t1:(n != 0)=true:=by simp;omega
    have fin:∀w2 v,v = .slice none 0 0->RirAt w2 X (s.word.2.1,true) q p->Kp (Two q p) w w2->∃v',Ending.returned v = .returned v'/\SliceAt rlR.slice.slice w2 (From w.heap.size) (rdList rdTables s).1 v'/\RirAt w2 X (rdList rdTables s).2 q p/\Kp (Two q p) w w2:=by
      intro w2 v hv hr hk
      rw [Hbad.out,hv]
      exact ⟨_,rfl,SliceAt.nil _ _ _,hr,hk⟩
    have Fin:=Lib.hid fin
    clear fin
    by_cases h1:n<0
    · clear hbad
      go_enter Tryz.func132,Tryz.ntmps132
      go_wp2_with fail
      refine Hmain.out.mono ?_
      rintro e w1 ⟨rfl,h2,hk1⟩
      have d0:=h2.c1
      have d1:=h2.fz 1
      have H2:=Lib.hid h2
      have Hk1:=Lib.hid hk1
      clear h2 hk1
      go_wp2_with fail
      all_goals
        go_ret
        exact Fin.out _ _ rfl (H2.out.long true) (Hk1.out.trans ((Kp.set1 _ _ _ _).mono fun _ _ e=>.inl e))
    · by_cases h3:200<n
      · clear hbad
        go_enter Tryz.func132,Tryz.ntmps132
        go_wp2_with fail
        refine Hmain.out.mono ?_
        rintro e w1 ⟨rfl,h2,hk1⟩
        have d0:=h2.c1
        have d1:=h2.fz 1
        have H2:=Lib.hid h2
        have Hk1:=Lib.hid hk1
        clear h2 hk1
        go_wp2_with fail
        all_goals
          go_ret
          exact Fin.out _ _ rfl (H2.out.long true) (Hk1.out.trans ((Kp.set1 _ _ _ _).mono fun _ _ e=>.inl e))
      · have h4:((s.word.2.left:Nat):Int)<n:=by omega
        clear hbad
        go_enter Tryz.func132,Tryz.ntmps132
        go_wp2_with fail
        refine Hmain.out.mono ?_
        rintro e w1 ⟨rfl,h2,hk1⟩
        have d0:=h2.c1
        have d1:=h2.fz 1
        have d2:=h2.c0
        have H2:=Lib.hid h2
        have Hk1:=Lib.hid hk1
        clear h2 hk1
        go_wp2_with fail
        refine (Left_r _ X _ q p H2.out).mono ?_
        rintro e w1 ⟨rfl,rfl⟩
        go_wp2_with fail
        all_goals
          go_ret
          exact Fin.out _ _ rfl (H2.out.long true) (Hk1.out.trans ((Kp.set1 _ _ _ _).mono fun _ _ e=>.inl e))
  · have Hgood:=Lib.hid (rd_good (rd:=rdTables) Hn.out hbad)
    have h1:0<=n:=by omega
    have h2:n<=200:=by omega
    have h3:n<=((s.word.2.left:Nat):Int):=by omega
    have h4:¬n<0:=by omega
    have h5:¬200<n:=by omega
    have h6:¬((s.word.2.left:Nat):Int)<n:=by omega
    clear hbad
    go_enter Tryz.func132,Tryz.ntmps132
    go_wp2_with fail
    refine Hmain.out.mono ?_
    rintro e w1 ⟨rfl,h7,hk1⟩
    have d2:=h7.c0
    have H2:=Lib.hid h7
    have Hk1:=Lib.hid hk1
    clear h7 hk1
    go_wp2_with fail
    refine (Left_r _ X _ q p H2.out).mono ?_
    rintro e w1 ⟨rfl,rfl⟩
    clear d2
    go_wp2_with fail
    go_loopw [6,39] (fun v i wr=>∃k:Nat,(k:Int)<=n/\i = .int .i64 k/\ListSo rlR.slice.slice 100 rdTables w wr X s.word.2 q p k v) (fun _ i _=>n.toNat - (intOf i).toNat)
    case atStart=>exact ⟨0,by simpa using h1,rfl,No,OwnAt.nil _ _ _ _ _,fun _ h=>h.elim,H2.out,Hk1.out.orl⟩
    case round =>
      obtain ⟨k,hk,rfl,hso⟩:=hrel
      have q3:(0:Int)<=(k:Int):=by omega
      by_cases hlt:(k:Int)<n
      · obtain ⟨E,hown,hE,hr,hkp⟩:=hso
        have Hsz:=Lib.hid hkp.size
        have Hlen:=Lib.hid (rdN_len rdTables k s.word.2)
        have Hown:=Lib.hid hown
        have HE:=Lib.hid hE
        have Hr:=Lib.hid hr
        have Hkp:=Lib.hid hkp
        clear hown hE hr hkp
        go_wp2_with fail
        refine (rir_tables _ X _ q p Hr.out).mono ?_
        rintro e w1 ⟨u,rfl,hu,h1,hk1⟩
        obtain ⟨A3,n3,c3,rfl,_,_,_⟩:=hu.form'
        have H1:=Lib.hid h1
        have Hk1:=Lib.hid hk1
        have hsz1:=hk1.size
        have Hown1:=Lib.hid (((Hown.out.kp hk1 (fun b hb h=>absurd (HE.out b hb).1 (by unfold Two at h;omega)) (fun b hb h=>absurd hb (by unfold Two at h;unfold From;omega))).monoE (E':=fun b=>E b\/(wr.heap.size<=b/\b<w1.heap.size)) (fun b _ h=>.inl h) (fun g hg h=>h.elim (Hown.out.blk hg).2.2 (fun h=>absurd (Hown.out.blk hg).1 (by omega)))).alloc (.cells #[.slice A3 n3 c3] 100))
        have Hrel:=Lib.hid (show (rlR.slice.slice).rel (w1.alloc (.cells #[.slice A3 n3 c3] 100)) (fun b=>E b\/(wr.heap.size<=b/\b<w1.heap.size)) (rdTables (rdN rdTables k s.word.2).2).1 [.slice A3 n3 c3] from ⟨_,rfl,(hu.mono (fun b hlt hb=>.inr ⟨hb,hlt⟩)).kp ((Kp.refl No w1).alloc _) (fun _ _=>id)⟩)
        clear hu
        have HE1:=Lib.hid (show ∀b,(fun b=>E b\/(wr.heap.size<=b/\b<w1.heap.size)) b->w.heap.size<=b/\b<w1.heap.size from fun b hb=>hb.elim (fun hb=>⟨(HE.out b hb).1,Nat.lt_of_lt_of_le (HE.out b hb).2 hsz1⟩) (fun hb=>⟨Nat.le_trans Hsz.out hb.1,hb.2⟩))
        clear h1 hk1
        go_wp2_with (at_builtin;(refine wpList_append_rep (R:=rlR.slice.slice) (E:=(fun b=>E b\/(wr.heap.size<=b/\b<w1.heap.size))) (O:=From w.heap.size) (bytes:=24) rfl _ _ rfl Tryz.elr_tables (by decide) rfl Hown1.out _ _ _ [(rdTables (rdN rdTables k s.word.2).2).1] rfl rfl (Source.one (cs:=[.slice A3 n3 c3]) Hrel.out) ?_ ?_ ?_ ?_ ?_);(· exact fun b hb=>by have:=HE1.out b hb;simp;omega);(· exact fun b hb=>by have:=Hsz.out;simp at hb;unfold From;omega);(· (have:=Hlen.out;simp;omega));(· (have:=Hlen.out;simp;omega));(intro b' w2 hown2 hkp2 hat2))
        have hk2:Kp (From w.heap.size) w1 w2:=((Kp.refl _ w1).alloc _).trans (hkp2.mono fun b hb h=>(Hown1.out.blk h).2.1)
        have Hso:=Lib.hid (ListSo.next (s:=s.word.2) Hsz.out HE1.out hown2 H1.out HX.out Hkp.out Hk1.out hk2)
        clear hown2 hkp2 hat2 hk2
        go_wp2_with fail
        go_roundw
        case rel=>exact ⟨k+1,by omega,by go_num,Hso.out⟩
        case measure=>simp [intOf];omega
      · have Hso:=Lib.hid hso
        have Hkn:=Lib.hid (show n.toNat=k by omega)
        clear hso
        go_wp2_with fail
        go_ret
        rw [Hgood.out,Hkn.out]
        exact ⟨_,rfl,Hso.out.done⟩
end Go.Proofs.YthgbdoofchknhaaGreatDoor
end
section
namespace Go.Proofs.YthgbdoofchknhaaGreatDoor
open Go.RowKit
def TwoB (q p B:Nat):Nat->Prop:=fun g=>Two q p g\/g=B
theorem twoB_off {q p B:Nat} (hq:q<B) (hp:p<B):∀b,From (B+1) b->¬TwoB q p B b:=by
 intro b hb h
 unfold From at hb
 rcases h with (h | h) | h <;> omega
theorem rdN_w1 (s:RS):(rdN RS.word 1 s).1=[s.word.1]:=by rw [rdN,rdN];rfl
theorem rdN_s1 (s:RS):(rdN RS.word 1 s).2=s.word.2:=by rw [rdN,rdN]
theorem mkPr_2 {α β:Type} (a:α) (b:β):(Prod.mk a b).2=b:=rfl
theorem mkCfg_1 (a:List (List Pt)) (b:UInt64) (c:List Pr) (d:List Wy) (e:List (List (List Rl))) (f:RS):(Prod.mk (Cfg.mk a b c d e) f).1.ports=a:=rfl
theorem mkCfg_2 (a:List (List Pt)) (b:UInt64) (c:List Pr) (d:List Wy) (e:List (List (List Rl))) (f:RS):(Prod.mk (Cfg.mk a b c d e) f).1.tenants=b:=rfl
theorem mkCfg_3 (a:List (List Pt)) (b:UInt64) (c:List Pr) (d:List Wy) (e:List (List (List Rl))) (f:RS):(Prod.mk (Cfg.mk a b c d e) f).1.peers=c:=rfl
theorem mkCfg_4 (a:List (List Pt)) (b:UInt64) (c:List Pr) (d:List Wy) (e:List (List (List Rl))) (f:RS):(Prod.mk (Cfg.mk a b c d e) f).1.ways=d:=rfl
theorem mkCfg_5 (a:List (List Pt)) (b:UInt64) (c:List Pr) (d:List Wy) (e:List (List (List Rl))) (f:RS):(Prod.mk (Cfg.mk a b c d e) f).1.tables=e:=rfl
theorem rdCfg_1 (s:RS):(rdCfg s).1.ports=(rdList rdPorts s).1:=by
 unfold rdCfg
 exact mkCfg_1 _ _ _ _ _ _
theorem rdCfg_2 (s:RS):(rdCfg s).1.tenants=(rdList rdPorts s).2.word.1:=by
 unfold rdCfg
 exact mkCfg_2 _ _ _ _ _ _
theorem rdCfg_3 (s:RS):(rdCfg s).1.peers=(rdList rdPr (rdList rdPorts s).2.word.2).1:=by
 unfold rdCfg
 exact mkCfg_3 _ _ _ _ _ _
theorem rdCfg_4 (s:RS):(rdCfg s).1.ways=(rdList rdWy (rdList rdPr (rdList rdPorts s).2.word.2).2).1:=by
 unfold rdCfg
 exact mkCfg_4 _ _ _ _ _ _
theorem rdCfg_5 (s:RS):(rdCfg s).1.tables=(rdList rdTables (rdList rdWy (rdList rdPr (rdList rdPorts s).2.word.2).2).2).1:=by
 unfold rdCfg
 exact mkCfg_5 _ _ _ _ _ _
theorem rdCfg_6 (s:RS):(rdCfg s).2=(rdList rdTables (rdList rdWy (rdList rdPr (rdList rdPorts s).2.word.2).2).2).2:=by
 unfold rdCfg
 exact mkPr_2 _ _
set_option maxHeartbeats 1000000 in
theorem rir_config (w:World) (X:Nat->Prop) (s:RS) (q p:Nat) (h:RirAt w X s q p) :
  Calls Tryz.prog 89 #[.pointer (some ⟨q,0,none⟩)] w fun e w'=>∃v1 v2 v3 v4,e = .returned (.agg #[v1,.int .i64 (i64of (rdCfg s).1.tenants),v2,v3,v4])/\SliceAt ptR.slice w' (From w.heap.size) (rdCfg s).1.ports v1/\SliceAt prR w' (From w.heap.size) (rdCfg s).1.peers v2/\SliceAt wyR w' (From w.heap.size) (rdCfg s).1.ways v3/\SliceAt rlR.slice.slice w' (From w.heap.size) (rdCfg s).1.tables v4/\RirAt w' X (rdCfg s).2 q p/\Kp (Two q p) w w':=by
 simp only [rdCfg_1,rdCfg_2,rdCfg_3,rdCfg_4,rdCfg_5,rdCfg_6]
 obtain ⟨hq,hp,hpq⟩:=h.lt
 have H:=Lib.hid h
 have HX:=Lib.hid h.off
 have HO:=Lib.hid (twoB_off hq hp)
 have HXB:=Lib.hid (show ¬X w.heap.size from fun hx=>h.off _ hx (Nat.le_refl _))
 have hwx:=alloc_size w (.cells #[.slice none 0 0,.int .i64 0,.slice none 0 0,.slice none 0 0,.slice none 0 0] 34)
 have Hwx:=Lib.hid hwx
 clear h hpq hwx
 go_enter Tryz.func89,Tryz.ntmps89
 go_wp2_with fail
 refine (rir_list_ports _ X s q p (H.out.kp (S:=From w.heap.size) (by repeat (first | with_reducible exact Kp.refl _ _ | with_reducible refine Kp.alloc ?_ _ | with_reducible refine Kp.drew ?_ | with_reducible refine Kp.drewN ?_ _ | with_reducible refine Kp.setRow ?_ (from_le (by first | exact Nat.le_refl _ | omega)) _ | with_reducible refine Kp.setCell ?_ (Or.inl (from_le (by first | (dsimp only;omega) | omega | (simp;omega) | (simp;done)))) _)) HX.out)).mono ?_
 rintro e w1 ⟨v1,rfl,hs1,h1,hk1⟩
 obtain ⟨A1,n1,k1,rfl,_,_,_⟩:=hs1.form'
 have r1:=hk1.heap (heap_alloc_new w _) (by unfold Two;omega)
 rw [Hwx.out] at hs1
 have Hs1:=Lib.hid hs1
 have Hk1:=Lib.hid (hk1.mono (S':=TwoB q p w.heap.size) fun _ _ h=>.inl h)
 have H1:=Lib.hid h1
 have c0:w1.cell? ⟨w.heap.size,0,none⟩=some (.slice none 0 0):=cell_of_row _ _ 0 _ _ _ r1
 have c1:w1.cell? ⟨w.heap.size,1,none⟩=some (.int .i64 0):=cell_of_row _ _ 1 _ _ _ r1
 have c2:w1.cell? ⟨w.heap.size,2,none⟩=some (.slice none 0 0):=cell_of_row _ _ 2 _ _ _ r1
 have c3:w1.cell? ⟨w.heap.size,3,none⟩=some (.slice none 0 0):=cell_of_row _ _ 3 _ _ _ r1
 have c4:w1.cell? ⟨w.heap.size,4,none⟩=some (.slice none 0 0):=cell_of_row _ _ 4 _ _ _ r1
 have cf:∀o,w1.frozen? ⟨w.heap.size,o,none⟩=false:=fun o=>frz_of_row _ _ o _ _ r1
 have z1:w.heap.size<w1.heap.size:=(Array.getElem?_eq_some_iff.1 r1).1
 have R1:=Lib.hid r1
 clear hs1 hk1 h1 r1
 go_wp2_with fail
 have r2:=heap_setCell_same _ _ 0 _ _ (.slice A1 n1 k1) R1.out
 simp only [List.setIfInBounds_toArray,List.set_cons_zero,List.set_cons_succ] at r2
 refine (rir_nums_lit _ X _ q p w.heap.size [1] _ _ _ _ _ (by simp [World.setCell]) rfl rfl (H1.out.kp (S:=From w.heap.size) (by repeat (first | with_reducible exact Kp.refl _ _ | with_reducible refine Kp.alloc ?_ _ | with_reducible refine Kp.drew ?_ | with_reducible refine Kp.drewN ?_ _ | with_reducible refine Kp.setRow ?_ (from_le (by first | exact Nat.le_refl _ | omega)) _ | with_reducible refine Kp.setCell ?_ (Or.inl (from_le (by first | (dsimp only;omega) | omega | (simp;omega) | (simp;done)))) _)) HX.out) r2 HXB.out (by simp) (by simp)).mono ?_
 rintro e w2 ⟨rfl,h2,r3,hk2⟩
 simp only [List.length_cons,List.length_nil,Nat.reduceAdd,rdN_s1] at h2
 simp only [List.length_cons,List.length_nil,Nat.reduceAdd,rdN_w1,List.zip_cons_cons,List.zip_nil_left,setW,List.foldl_cons,List.foldl_nil,List.setIfInBounds_toArray,List.set_cons_zero,List.set_cons_succ] at r3
 have Kx2:=Lib.hid ((show Kp (TwoB q p w.heap.size) w1 _ from ((Kp.refl _ _).setCell (.inl (.inr rfl)) _)).trans hk2)
 have Hk2:=Lib.hid (Hk1.out.trans Kx2.out)
 have Hs1:=Lib.hid (Hs1.out.kp Kx2.out HO.out)
 have H2:=Lib.hid h2
 have z2:w.heap.size<w2.heap.size:=(Array.getElem?_eq_some_iff.1 r3).1
 have R2:=Lib.hid r3
 clear h2 hk2 r2 r3 c0 c1 c2 c3 c4 cf
 go_wp2_with fail
 refine (rir_list_peer _ X _ q p H2.out).mono ?_
 rintro e w3 ⟨v2,rfl,hs,hr,hk⟩
 obtain ⟨A2,n2,k2,rfl,_,_,_⟩:=hs.form'
 have r:=hk.heap R2.out (by unfold Two;omega)
 have Hs2:=Lib.hid (hs.mono (F':=From (w.heap.size+1)) fun b _ hb=>by unfold From at *;(try simp [World.setCell] at hb);omega)
 have Kx3:=Lib.hid ((Kp.refl (TwoB q p w.heap.size) w2).trans (hk.mono (S':=TwoB q p w.heap.size) fun _ _ h=>.inl h))
 have Hk3:=Lib.hid (Hk2.out.trans Kx3.out)
 have Hs1:=Lib.hid (Hs1.out.kp Kx3.out HO.out)
 have H3:=Lib.hid hr
 have c0:w3.cell? ⟨w.heap.size,0,none⟩=some (.slice A1 n1 k1):=cell_of_row _ _ 0 _ _ _ r
 have c1:w3.cell? ⟨w.heap.size,1,none⟩=some (.int .i64 (i64of (rdList rdPorts s).2.word.1)):=cell_of_row _ _ 1 _ _ _ r
 have c2:w3.cell? ⟨w.heap.size,2,none⟩=some (.slice none 0 0):=cell_of_row _ _ 2 _ _ _ r
 have c3:w3.cell? ⟨w.heap.size,3,none⟩=some (.slice none 0 0):=cell_of_row _ _ 3 _ _ _ r
 have c4:w3.cell? ⟨w.heap.size,4,none⟩=some (.slice none 0 0):=cell_of_row _ _ 4 _ _ _ r
 have cf:∀o,w3.frozen? ⟨w.heap.size,o,none⟩=false:=fun o=>frz_of_row _ _ o _ _ r
 have z3:w.heap.size<w3.heap.size:=(Array.getElem?_eq_some_iff.1 r).1
 have R3:=Lib.hid r
 clear hs hr hk r
 go_wp2_with fail
 have q3:=heap_setCell_same _ _ 2 _ _ (.slice A2 n2 k2) R3.out
 simp only [List.setIfInBounds_toArray,List.set_cons_zero,List.set_cons_succ] at q3
 refine (rir_list_way _ X _ q p (H3.out.kp (S:=From w.heap.size) (by repeat (first | with_reducible exact Kp.refl _ _ | with_reducible refine Kp.alloc ?_ _ | with_reducible refine Kp.drew ?_ | with_reducible refine Kp.drewN ?_ _ | with_reducible refine Kp.setRow ?_ (from_le (by first | exact Nat.le_refl _ | omega)) _ | with_reducible refine Kp.setCell ?_ (Or.inl (from_le (by first | (dsimp only;omega) | omega | (simp;omega) | (simp;done)))) _)) HX.out)).mono ?_
 rintro e w4 ⟨v3,rfl,hs,hr,hk⟩
 obtain ⟨A3,n3,k3,rfl,_,_,_⟩:=hs.form'
 have r:=hk.heap (q3) (by unfold Two;omega)
 have Hs3:=Lib.hid (hs.mono (F':=From (w.heap.size+1)) fun b _ hb=>by unfold From at *;(try simp [World.setCell] at hb);omega)
 have Kx4:=Lib.hid ((show Kp (TwoB q p w.heap.size) w3 _ from ((Kp.refl _ _).setCell (.inl (.inr rfl)) _)).trans (hk.mono (S':=TwoB q p w.heap.size) fun _ _ h=>.inl h))
 have Hk4:=Lib.hid (Hk3.out.trans Kx4.out)
 have Hs1:=Lib.hid (Hs1.out.kp Kx4.out HO.out)
 have Hs2:=Lib.hid (Hs2.out.kp Kx4.out HO.out)
 have H4:=Lib.hid hr
 clear c0 c1 c2 c3 c4 cf
 have c0:w4.cell? ⟨w.heap.size,0,none⟩=some (.slice A1 n1 k1):=cell_of_row _ _ 0 _ _ _ r
 have c1:w4.cell? ⟨w.heap.size,1,none⟩=some (.int .i64 (i64of (rdList rdPorts s).2.word.1)):=cell_of_row _ _ 1 _ _ _ r
 have c2:w4.cell? ⟨w.heap.size,2,none⟩=some (.slice A2 n2 k2):=cell_of_row _ _ 2 _ _ _ r
 have c3:w4.cell? ⟨w.heap.size,3,none⟩=some (.slice none 0 0):=cell_of_row _ _ 3 _ _ _ r
 have c4:w4.cell? ⟨w.heap.size,4,none⟩=some (.slice none 0 0):=cell_of_row _ _ 4 _ _ _ r
 have cf:∀o,w4.frozen? ⟨w.heap.size,o,none⟩=false:=fun o=>frz_of_row _ _ o _ _ r
 have z4:w.heap.size<w4.heap.size:=(Array.getElem?_eq_some_iff.1 r).1
 have R4:=Lib.hid r
 clear hs hr hk r q3
 go_wp2_with fail
 have q4:=heap_setCell_same _ _ 3 _ _ (.slice A3 n3 k3) R4.out
 simp only [List.setIfInBounds_toArray,List.set_cons_zero,List.set_cons_succ] at q4
 refine (rir_list_tables _ X _ q p (H4.out.kp (S:=From w.heap.size) (by repeat (first | with_reducible exact Kp.refl _ _ | with_reducible refine Kp.alloc ?_ _ | with_reducible refine Kp.drew ?_ | with_reducible refine Kp.drewN ?_ _ | with_reducible refine Kp.setRow ?_ (from_le (by first | exact Nat.le_refl _ | omega)) _ | with_reducible refine Kp.setCell ?_ (Or.inl (from_le (by first | (dsimp only;omega) | omega | (simp;omega) | (simp;done)))) _)) HX.out)).mono ?_
 rintro e w5 ⟨v4,rfl,hs,hr,hk⟩
 obtain ⟨A4,n4,k4,rfl,_,_,_⟩:=hs.form'
 have r:=hk.heap (q4) (by unfold Two;omega)
 have Hs4:=Lib.hid (hs.mono (F':=From (w.heap.size+1)) fun b _ hb=>by unfold From at *;(try simp [World.setCell] at hb);omega)
 have Kx5:=Lib.hid ((show Kp (TwoB q p w.heap.size) w4 _ from ((Kp.refl _ _).setCell (.inl (.inr rfl)) _)).trans (hk.mono (S':=TwoB q p w.heap.size) fun _ _ h=>.inl h))
 have Hk5:=Lib.hid (Hk4.out.trans Kx5.out)
 have Hs1:=Lib.hid (Hs1.out.kp Kx5.out HO.out)
 have Hs2:=Lib.hid (Hs2.out.kp Kx5.out HO.out)
 have Hs3:=Lib.hid (Hs3.out.kp Kx5.out HO.out)
 have H5:=Lib.hid hr
 clear c0 c1 c2 c3 c4 cf
 have c0:w5.cell? ⟨w.heap.size,0,none⟩=some (.slice A1 n1 k1):=cell_of_row _ _ 0 _ _ _ r
 have c1:w5.cell? ⟨w.heap.size,1,none⟩=some (.int .i64 (i64of (rdList rdPorts s).2.word.1)):=cell_of_row _ _ 1 _ _ _ r
 have c2:w5.cell? ⟨w.heap.size,2,none⟩=some (.slice A2 n2 k2):=cell_of_row _ _ 2 _ _ _ r
 have c3:w5.cell? ⟨w.heap.size,3,none⟩=some (.slice A3 n3 k3):=cell_of_row _ _ 3 _ _ _ r
 have c4:w5.cell? ⟨w.heap.size,4,none⟩=some (.slice none 0 0):=cell_of_row _ _ 4 _ _ _ r
 have cf:∀o,w5.frozen? ⟨w.heap.size,o,none⟩=false:=fun o=>frz_of_row _ _ o _ _ r
 have z5:w.heap.size<w5.heap.size:=(Array.getElem?_eq_some_iff.1 r).1
 have R5:=Lib.hid r
 clear hs hr hk r q4
 go_wp2_with fail
 have fin:Kp (TwoB q p w.heap.size) w5 ((((((w5.setCell ⟨w.heap.size,4,none⟩ (.slice A4 n4 k4)).setCell ⟨w.heap.size,0,none⟩ (.slice A1 n1 k1)).setCell ⟨w.heap.size,1,none⟩ (.int .i64 (i64of (rdList rdPorts s).2.word.1))).setCell ⟨w.heap.size,2,none⟩ (.slice A2 n2 k2)).setCell ⟨w.heap.size,3,none⟩ (.slice A3 n3 k3)).setCell ⟨w.heap.size,4,none⟩ (.slice A4 n4 k4)):=by repeat (first | with_reducible exact Kp.refl _ _ | with_reducible refine Kp.setCell ?_ (Or.inl (Or.inr (by dsimp only))) _)
 have up:∀b,From (w.heap.size+1) b->From w.heap.size b:=fun b hb=>Nat.le_trans (Nat.le_succ _) hb
 refine bodyPost_ret (v:=.agg #[.slice A1 n1 k1,.int .i64 (i64of (rdList rdPorts s).2.word.1),.slice A2 n2 k2,.slice A3 n3 k3,.slice A4 n4 k4]) ?_ rfl ⟨_,_,_,_,rfl,(Hs1.out.kp fin HO.out).mono fun b _=>up b,(Hs2.out.kp fin HO.out).mono fun b _=>up b,(Hs3.out.kp fin HO.out).mono fun b _=>up b,(Hs4.out.kp fin HO.out).mono fun b _=>up b,H5.out.kp (S:=From w.heap.size) (by repeat (first | with_reducible exact Kp.refl _ _ | with_reducible refine Kp.alloc ?_ _ | with_reducible refine Kp.drew ?_ | with_reducible refine Kp.drewN ?_ _ | with_reducible refine Kp.setRow ?_ (from_le (by first | exact Nat.le_refl _ | omega)) _ | with_reducible refine Kp.setCell ?_ (Or.inl (from_le (by first | (dsimp only;omega) | omega | (simp;omega) | (simp;done)))) _)) HX.out,(((Kp.fr (S:=Two q p) (show Kp (From w.heap.size) w (w.alloc _) from (by repeat (first | with_reducible exact Kp.refl _ _ | with_reducible refine Kp.alloc ?_ _ | with_reducible refine Kp.drew ?_ | with_reducible refine Kp.drewN ?_ _ | with_reducible refine Kp.setRow ?_ (from_le (by first | exact Nat.le_refl _ | omega)) _ | with_reducible refine Kp.setCell ?_ (Or.inl (from_le (by first | (dsimp only;omega) | omega | (simp;omega) | (simp;done)))) _)))).trans (Hk5.out.orb (Nat.le_refl _))).trans (Kp.orb fin (Nat.le_refl _))).unfresh⟩
 simp [results,Tryz.results89,go_sem,c0,c1,c2,c3,c4]
end Go.Proofs.YthgbdoofchknhaaGreatDoor
end
section
namespace Go.Proofs.YthgbdoofchknhaaGreatDoor
open Go.RowKit
def Wrote (w w':World) (X:Nat->Prop) (l:List UInt8) (lg:Bool) (q:Nat) (fit:Bool) (ws:List UInt64) (M:Nat):Prop :=
 ∃l',WirAt w' X l' (lg || !fit) q/\Kp X w w'/\l'.length<=l.length+M/\(fit=true->l'=l++enc8 ws)
theorem Wrote.exact {w w':World} {X:Nat->Prop} {l:List UInt8} {lg:Bool} {q:Nat} {ws:List UInt64} {M:Nat} (h:WirAt w' X (l++enc8 ws) lg q) (hk:Kp X w w') (hM:8*ws.length<=M):Wrote w w' X l lg q true ws M :=
 ⟨_,by simpa using h,hk,by rw [List.length_append,enc8_len];omega,fun _=>rfl⟩
def SoFar {α:Type} (f:α->List UInt64) (ok:α->Bool) (M:Nat) (w wr:World) (X:Nat->Prop) (l:List UInt8) (lg:Bool) (q:Nat) (xs:List α) (k:Nat):Prop :=
 ∃l',WirAt wr X l' (lg || !(xs.take k).all ok) q/\Kp X w wr/\l'.length<=l.length+8+k*M/\((xs.take k).all ok=true->l'=l++enc8 (UInt64.ofNat xs.length::(xs.take k).flatMap f))
theorem ofInt_ofNat (n:Nat):UInt64.ofInt (n:Int)=UInt64.ofNat n:=by
 apply UInt64.toNat_inj.1
 have h1:=u64_ofInt (n:Int)
 have h2:=u64_wrap n
 omega
theorem SoFar.start {α:Type} {f:α->List UInt64} {ok:α->Bool} {M:Nat} {w wr:World} {X:Nat->Prop} {l:List UInt8} {lg:Bool} {q:Nat} {xs:List α} (h:WirAt wr X (l++putF (UInt64.ofNat xs.length) 8) lg q) (hk:Kp X w wr):SoFar f ok M w wr X l lg q xs 0 :=
 ⟨_,by simpa using h,hk,by rw [List.length_append,putF_len];omega,fun _=>by rw [List.take_zero,List.flatMap_nil,enc8_cons,enc8_nil,List.append_nil]⟩
theorem SoFar.next {α : Type} {f : α -> List UInt64} {ok : α -> Bool} {M : Nat} {w wr w' : World} {X : Nat -> Prop} {l l' : List UInt8} {lg : Bool} {q : Nat} {xs : List α} {k : Nat} {x : α} (hx : xs[k]? = some x)
    (hk:Kp X w wr) (hl:l'.length<=l.length+8+k*M) (he:(xs.take k).all ok=true->l'=l++enc8 (UInt64.ofNat xs.length::(xs.take k).flatMap f))
    (hn:Wrote wr w' X l' (lg || !(xs.take k).all ok) q (ok x) (f x) M):SoFar f ok M w w' X l lg q xs (k+1):=by
  obtain ⟨l2,h1,h2,h3,h4⟩:=hn
  have ht:=take_snoc hx
  have ha:(xs.take (k+1)).all ok=((xs.take k).all ok && ok x):=by rw [ht];simp
  refine ⟨l2,?_,hk.trans h2,by rw [Nat.add_mul];omega,fun h=>?_⟩
  · have e:(lg || !((xs.take k).all ok && ok x))=(lg || !(xs.take k).all ok || !ok x):=by cases lg <;> cases (xs.take k).all ok <;> cases ok x <;> rfl
    rw [ha,e]
    exact h1
  · rw [ha,Bool.and_eq_true] at h
    rw [h4 h.2,he h.1,ht,List.flatMap_append,List.append_assoc,<- enc8_append]
    simp
theorem SoFar.done {α:Type} {f:α->List UInt64} {ok:α->Bool} {M N:Nat} {w wr:World} {X:Nat->Prop} {l:List UInt8} {lg:Bool} {q:Nat} {xs:List α} {k:Nat} (h:SoFar f ok M w wr X l lg q xs k) (hk:k=xs.length) (h2:xs.length<=200) (hN:8+200*M=N) :
  Wrote w wr X l lg q (fitL ok xs) (itemsW f xs) N:=by
 subst hk
 obtain ⟨l',h1,h3,h4,h5⟩:=h
 rw [List.take_of_length_le (Nat.le_refl _)] at h1 h5
 have hf:fitL ok xs=xs.all ok:=by simp [fitL,h2]
 have:xs.length*M<=200*M:=Nat.mul_le_mul_right _ h2
 exact ⟨l',by rw [hf];exact h1,h3,by omega,by rw [hf];exact h5⟩
theorem Wrote.over {α:Type} {f:α->List UInt64} {ok:α->Bool} {N:Nat} {w:World} {X:Nat->Prop} {l:List UInt8} {lg:Bool} {q:Nat} {xs:List α} (h:WirAt w X l lg q) (h2:200<xs.length) :
  Wrote w (w.setCell ⟨q,1,none⟩ (.bool true)) X l lg q (fitL ok xs) (itemsW f xs) N:=by
 have hf:fitL ok xs=false:=by simp only [fitL,Bool.and_eq_false_iff,decide_eq_false_iff_not];left;omega
 exact ⟨l,by rw [hf];simpa using h.long.1,h.long.2,Nat.le_add_right _ _,by rw [hf];intro h;cases h⟩
theorem Wrote.unbox {w w1:World} {X:Nat->Prop} {l:List UInt8} {lg:Bool} {q:Nat} {fit:Bool} {ws:List UInt64} {M:Nat} {o:Obj} (h:Wrote (w.alloc o) w1 (fun b=>X b/\b≠w.heap.size) l lg q fit ws M):Wrote w w1 X l lg q fit ws M:=by
 obtain ⟨l',h1,h2,h3,h4⟩:=h
 exact ⟨l',h1.unbox,h2.unbox,h3,h4⟩
set_option maxHeartbeats 1000000 in
theorem wir_items_ports (w : World) (X F : Nat -> Prop) (l : List UInt8) (lg : Bool) (q : Nat) (v : Value) (xs : List (Pt)) (h : WirAt w X l lg q) (hX : New w X) (hv : SliceAt ptR w F xs v) (hF : ∀ b, F b -> ¬ X b) (hb : l.length + 8008 <= 140737488355328) :
    Calls Tryz.prog 97 #[.pointer (some ⟨q,0,none⟩),v,.func (.func 98) #[.pointer (some ⟨q,0,none⟩)] #[]] w fun e w'=>e = .returned (.tuple #[])/\Wrote w w' X l lg q (fitL yes xs) (itemsW Pt.words xs) 8008:=by
  obtain ⟨A,n,c,rfl,Hn,hc1,hc2⟩:=hv.form'
  have Hv:=Lib.hid hv
  have Hw:=Lib.hid h
  have HX:=Lib.hid hX
  have HF:=Lib.hid hF
  have Hb:=Lib.hid hb
  obtain ⟨p,hq,hXq,hpw⟩:=h
  have h0:w.cell? ⟨q,0,none⟩=some (.pointer (some ⟨p,0,none⟩)):=cell_of_row w q 0 _ _ _ hq
  have h1:w.cell? ⟨q,1,none⟩=some (.bool lg):=cell_of_row w q 1 _ _ _ hq
  have hf1:w.frozen? ⟨q,1,none⟩=false:=by simp [World.frozen?,hq]
  have Hq:=Lib.hid hq
  have HXq:=Lib.hid hXq
  have Hpw:=Lib.hid hpw
  clear hv hX hF hb hq hXq hpw
  by_cases hbig:200<n
  · have hb1:(200:Int)<(n:Int):=by omega
    have Hbig:=Lib.hid hbig
    clear hbig
    go_enter Tryz.func97,Tryz.ntmps97
    go_wp2_with fail
    (try simp only [Exit.inBlock,Exit.then])
    refine bodyPost_ret (results_none rfl _ _ _) rfl ?_
    exact ⟨rfl,Wrote.over Hw.out (by rw [<- Hn.out];exact Hbig.out)⟩
  · have hb1:(n:Int)<=200:=by omega
    have Hsm:=Lib.hid (show n<=200 by omega)
    clear hbig
    go_enter Tryz.func97,Tryz.ntmps97
    go_wp2_with fail
    refine (Writer_Num _ _ _ _ (n:Int) Hpw.out (by have:=Hb.out;omega)).mono ?_
    rintro e w1 ⟨rfl,h2,hk2⟩
    have hnn:UInt64.ofInt (n:Int)=UInt64.ofNat xs.length:=by rw [<- Hn.out,ofInt_ofNat]
    rw [hnn] at h2
    have H4:=Lib.hid (WirAt.put Hq.out HXq.out HX.out h2 hk2)
    clear h2 hk2 hnn h0 h1 hf1
    go_wp2_with fail
    go_loopw [23] (fun i wr=>∃k:Nat,k<=n/\i = .int .i64 k/\SoFar Pt.words yes 40 w wr X l lg q xs k) (fun i _=>n - (intOf i).toNat)
    case atStart=>exact ⟨0,Nat.zero_le _,rfl,SoFar.start H4.out.1 H4.out.2⟩
    case round =>
      clear H4
      obtain ⟨k,hk,rfl,hso⟩:=hrel
      have q3:(0:Int)<=(k:Int):=by omega
      by_cases hlt:k<n
      · obtain ⟨l',hw,hkp,hl,he⟩:=hso
        have Hkm:=Lib.hid (show k*40<=199*40 from Nat.mul_le_mul_right _ (by have:=Hsm.out;omega))
        have Hkp:=Lib.hid hkp
        have Hl:=Lib.hid hl
        have He:=Lib.hid he
        obtain ⟨x,hx⟩:∃x,xs[k]?=some x:=⟨_,List.getElem?_eq_getElem (by rw [<- Hn.out];exact hlt)⟩
        have Hx:=Lib.hid hx
        obtain ⟨b,off,rfl,hFb,c0,c1,c2,c3,c4⟩:=(Hv.out.kp Hkp.out HF.out).get_Pt hx
        obtain ⟨h1,h2⟩:=hw.box (HX.out.kp hkp) (.cells #[.int .i64 (i64of x.kind),.int .i64 (i64of x.tenant),.int .i64 (i64of x.peer),.int .i64 (i64of x.at_),.int .i64 (i64of x.cost)] 107)
        obtain ⟨wx,hwx⟩:∃wx,wx=wr.alloc (.cells #[.int .i64 (i64of x.kind),.int .i64 (i64of x.tenant),.int .i64 (i64of x.peer),.int .i64 (i64of x.at_),.int .i64 (i64of x.cost)] 107):=⟨_,rfl⟩
        rw [<- hwx] at h1 h2
        have Hwx:=Lib.hid hwx
        have H1:=Lib.hid h1
        have H2:=Lib.hid h2
        have q1:(k:Int)<(n:Int):=by omega
        clear hwx h1 h2 hw hkp hl he hx hFb hlt
        go_wp2_with fail
        rw [<- Hwx.out]
        refine (wir_port _ _ _ _ _ x H1.out H2.out (by have:=Hl.out;have:=Hb.out;have:=Hkm.out;omega)).mono ?_
        rintro e w2 ⟨rfl,h3,hk3⟩
        have H3:=Lib.hid (show Wrote wx w2 (fun b=>X b/\b≠wr.heap.size) l' (lg || !(xs.take k).all yes) q true (Pt.words x) 40 from Wrote.exact h3 hk3 (by simp [Pt.words]))
        clear h3 hk3
        go_wp2_with fail
        go_roundw
        case rel=>exact ⟨k+1,by omega,by go_num,SoFar.next Hx.out Hkp.out Hl.out He.out (Wrote.unbox (by rw [<- Hwx.out];exact H3.out))⟩
        case measure=>simp [intOf];omega
      · have Hso:=Lib.hid hso
        clear hso
        go_wp2_with fail
        go_end0
        exact ⟨rfl,Hso.out.done (by rw [<- Hn.out];omega) (by rw [<- Hn.out];exact Hsm.out) rfl⟩
set_option maxHeartbeats 400000 in
theorem wir_ports (w:World) (X F:Nat->Prop) (l:List UInt8) (lg:Bool) (q:Nat) (v:Value) (xs:List (Pt)) (h:WirAt w X l lg q) (hX:New w X) (hv:SliceAt ptR w F xs v) (hF:∀b,F b->¬X b) (hb:l.length+8008<=140737488355328) :
  Calls Tryz.prog 64 #[.pointer (some ⟨q,0,none⟩),v] w fun e w'=>e = .returned (.tuple #[])/\Wrote w w' X l lg q (portsFit xs) (portsW xs) 8008:=by
 have h2:=wir_items_ports w X F l lg q v xs h hX hv hF hb
 have H2:=Lib.hid h2
 clear h2 h hX hv hF hb
 go_enter Tryz.func64,Tryz.ntmps64
 go_wp2_with fail
 refine H2.out.mono ?_
 rintro e w1 ⟨rfl,h3⟩
 have H3:=Lib.hid h3
 clear h3
 go_wp2_with fail
 go_end0
 exact ⟨rfl,H3.out⟩
set_option maxHeartbeats 1000000 in
theorem wir_items_peers (w : World) (X F : Nat -> Prop) (l : List UInt8) (lg : Bool) (q : Nat) (v : Value) (xs : List (Pr)) (h : WirAt w X l lg q) (hX : New w X) (hv : SliceAt prR w F xs v) (hF : ∀ b, F b -> ¬ X b) (hb : l.length + 3208 <= 140737488355328) :
    Calls Tryz.prog 66 #[.pointer (some ⟨q,0,none⟩),v,.func (.func 67) #[.pointer (some ⟨q,0,none⟩)] #[]] w fun e w'=>e = .returned (.tuple #[])/\Wrote w w' X l lg q (fitL yes xs) (itemsW Pr.words xs) 3208:=by
  obtain ⟨A,n,c,rfl,Hn,hc1,hc2⟩:=hv.form'
  have Hv:=Lib.hid hv
  have Hw:=Lib.hid h
  have HX:=Lib.hid hX
  have HF:=Lib.hid hF
  have Hb:=Lib.hid hb
  obtain ⟨p,hq,hXq,hpw⟩:=h
  have h0:w.cell? ⟨q,0,none⟩=some (.pointer (some ⟨p,0,none⟩)):=cell_of_row w q 0 _ _ _ hq
  have h1:w.cell? ⟨q,1,none⟩=some (.bool lg):=cell_of_row w q 1 _ _ _ hq
  have hf1:w.frozen? ⟨q,1,none⟩=false:=by simp [World.frozen?,hq]
  have Hq:=Lib.hid hq
  have HXq:=Lib.hid hXq
  have Hpw:=Lib.hid hpw
  clear hv hX hF hb hq hXq hpw
  by_cases hbig:200<n
  · have hb1:(200:Int)<(n:Int):=by omega
    have Hbig:=Lib.hid hbig
    clear hbig
    go_enter Tryz.func66,Tryz.ntmps66
    go_wp2_with fail
    (try simp only [Exit.inBlock,Exit.then])
    refine bodyPost_ret (results_none rfl _ _ _) rfl ?_
    exact ⟨rfl,Wrote.over Hw.out (by rw [<- Hn.out];exact Hbig.out)⟩
  · have hb1:(n:Int)<=200:=by omega
    have Hsm:=Lib.hid (show n<=200 by omega)
    clear hbig
    go_enter Tryz.func66,Tryz.ntmps66
    go_wp2_with fail
    refine (Writer_Num _ _ _ _ (n:Int) Hpw.out (by have:=Hb.out;omega)).mono ?_
    rintro e w1 ⟨rfl,h2,hk2⟩
    have hnn:UInt64.ofInt (n:Int)=UInt64.ofNat xs.length:=by rw [<- Hn.out,ofInt_ofNat]
    rw [hnn] at h2
    have H4:=Lib.hid (WirAt.put Hq.out HXq.out HX.out h2 hk2)
    clear h2 hk2 hnn h0 h1 hf1
    go_wp2_with fail
    go_loopw [23] (fun i wr=>∃k:Nat,k<=n/\i = .int .i64 k/\SoFar Pr.words yes 16 w wr X l lg q xs k) (fun i _=>n - (intOf i).toNat)
    case atStart=>exact ⟨0,Nat.zero_le _,rfl,SoFar.start H4.out.1 H4.out.2⟩
    case round =>
      clear H4
      obtain ⟨k,hk,rfl,hso⟩:=hrel
      have q3:(0:Int)<=(k:Int):=by omega
      by_cases hlt:k<n
      · obtain ⟨l',hw,hkp,hl,he⟩:=hso
        have Hkm:=Lib.hid (show k*16<=199*16 from Nat.mul_le_mul_right _ (by have:=Hsm.out;omega))
        have Hkp:=Lib.hid hkp
        have Hl:=Lib.hid hl
        have He:=Lib.hid he
        obtain ⟨x,hx⟩:∃x,xs[k]?=some x:=⟨_,List.getElem?_eq_getElem (by rw [<- Hn.out];exact hlt)⟩
        have Hx:=Lib.hid hx
        obtain ⟨b,off,rfl,hFb,c0,c1⟩:=(Hv.out.kp Hkp.out HF.out).get_Pr hx
        obtain ⟨h1,h2⟩:=hw.box (HX.out.kp hkp) (.cells #[.int .i64 (i64of x.a),.int .i64 (i64of x.b)] 96)
        obtain ⟨wx,hwx⟩:∃wx,wx=wr.alloc (.cells #[.int .i64 (i64of x.a),.int .i64 (i64of x.b)] 96):=⟨_,rfl⟩
        rw [<- hwx] at h1 h2
        have Hwx:=Lib.hid hwx
        have H1:=Lib.hid h1
        have H2:=Lib.hid h2
        have q1:(k:Int)<(n:Int):=by omega
        clear hwx h1 h2 hw hkp hl he hx hFb hlt
        go_wp2_with fail
        rw [<- Hwx.out]
        refine (wir_peer _ _ _ _ _ x H1.out H2.out (by have:=Hl.out;have:=Hb.out;have:=Hkm.out;omega)).mono ?_
        rintro e w2 ⟨rfl,h3,hk3⟩
        have H3:=Lib.hid (show Wrote wx w2 (fun b=>X b/\b≠wr.heap.size) l' (lg || !(xs.take k).all yes) q true (Pr.words x) 16 from Wrote.exact h3 hk3 (by simp [Pr.words]))
        clear h3 hk3
        go_wp2_with fail
        go_roundw
        case rel=>exact ⟨k+1,by omega,by go_num,SoFar.next Hx.out Hkp.out Hl.out He.out (Wrote.unbox (by rw [<- Hwx.out];exact H3.out))⟩
        case measure=>simp [intOf];omega
      · have Hso:=Lib.hid hso
        clear hso
        go_wp2_with fail
        go_end0
        exact ⟨rfl,Hso.out.done (by rw [<- Hn.out];omega) (by rw [<- Hn.out];exact Hsm.out) rfl⟩
set_option maxHeartbeats 1000000 in
theorem wir_items_ways (w : World) (X F : Nat -> Prop) (l : List UInt8) (lg : Bool) (q : Nat) (v : Value) (xs : List (Wy)) (h : WirAt w X l lg q) (hX : New w X) (hv : SliceAt wyR w F xs v) (hF : ∀ b, F b -> ¬ X b) (hb : l.length + 4808 <= 140737488355328) :
    Calls Tryz.prog 68 #[.pointer (some ⟨q,0,none⟩),v,.func (.func 69) #[.pointer (some ⟨q,0,none⟩)] #[]] w fun e w'=>e = .returned (.tuple #[])/\Wrote w w' X l lg q (fitL yes xs) (itemsW Wy.words xs) 4808:=by
  obtain ⟨A,n,c,rfl,Hn,hc1,hc2⟩:=hv.form'
  have Hv:=Lib.hid hv
  have Hw:=Lib.hid h
  have HX:=Lib.hid hX
  have HF:=Lib.hid hF
  have Hb:=Lib.hid hb
  obtain ⟨p,hq,hXq,hpw⟩:=h
  have h0:w.cell? ⟨q,0,none⟩=some (.pointer (some ⟨p,0,none⟩)):=cell_of_row w q 0 _ _ _ hq
  have h1:w.cell? ⟨q,1,none⟩=some (.bool lg):=cell_of_row w q 1 _ _ _ hq
  have hf1:w.frozen? ⟨q,1,none⟩=false:=by simp [World.frozen?,hq]
  have Hq:=Lib.hid hq
  have HXq:=Lib.hid hXq
  have Hpw:=Lib.hid hpw
  clear hv hX hF hb hq hXq hpw
  by_cases hbig:200<n
  · have hb1:(200:Int)<(n:Int):=by omega
    have Hbig:=Lib.hid hbig
    clear hbig
    go_enter Tryz.func68,Tryz.ntmps68
    go_wp2_with fail
    (try simp only [Exit.inBlock,Exit.then])
    refine bodyPost_ret (results_none rfl _ _ _) rfl ?_
    exact ⟨rfl,Wrote.over Hw.out (by rw [<- Hn.out];exact Hbig.out)⟩
  · have hb1:(n:Int)<=200:=by omega
    have Hsm:=Lib.hid (show n<=200 by omega)
    clear hbig
    go_enter Tryz.func68,Tryz.ntmps68
    go_wp2_with fail
    refine (Writer_Num _ _ _ _ (n:Int) Hpw.out (by have:=Hb.out;omega)).mono ?_
    rintro e w1 ⟨rfl,h2,hk2⟩
    have hnn:UInt64.ofInt (n:Int)=UInt64.ofNat xs.length:=by rw [<- Hn.out,ofInt_ofNat]
    rw [hnn] at h2
    have H4:=Lib.hid (WirAt.put Hq.out HXq.out HX.out h2 hk2)
    clear h2 hk2 hnn h0 h1 hf1
    go_wp2_with fail
    go_loopw [23] (fun i wr=>∃k:Nat,k<=n/\i = .int .i64 k/\SoFar Wy.words yes 24 w wr X l lg q xs k) (fun i _=>n - (intOf i).toNat)
    case atStart=>exact ⟨0,Nat.zero_le _,rfl,SoFar.start H4.out.1 H4.out.2⟩
    case round =>
      clear H4
      obtain ⟨k,hk,rfl,hso⟩:=hrel
      have q3:(0:Int)<=(k:Int):=by omega
      by_cases hlt:k<n
      · obtain ⟨l',hw,hkp,hl,he⟩:=hso
        have Hkm:=Lib.hid (show k*24<=199*24 from Nat.mul_le_mul_right _ (by have:=Hsm.out;omega))
        have Hkp:=Lib.hid hkp
        have Hl:=Lib.hid hl
        have He:=Lib.hid he
        obtain ⟨x,hx⟩:∃x,xs[k]?=some x:=⟨_,List.getElem?_eq_getElem (by rw [<- Hn.out];exact hlt)⟩
        have Hx:=Lib.hid hx
        obtain ⟨b,off,rfl,hFb,c0,c1,c2⟩:=(Hv.out.kp Hkp.out HF.out).get_Wy hx
        obtain ⟨h1,h2⟩:=hw.box (HX.out.kp hkp) (.cells #[.int .i64 (i64of x.fro),.int .i64 (i64of x.to),.int .i64 (i64of x.via)] 98)
        obtain ⟨wx,hwx⟩:∃wx,wx=wr.alloc (.cells #[.int .i64 (i64of x.fro),.int .i64 (i64of x.to),.int .i64 (i64of x.via)] 98):=⟨_,rfl⟩
        rw [<- hwx] at h1 h2
        have Hwx:=Lib.hid hwx
        have H1:=Lib.hid h1
        have H2:=Lib.hid h2
        have q1:(k:Int)<(n:Int):=by omega
        clear hwx h1 h2 hw hkp hl he hx hFb hlt
        go_wp2_with fail
        rw [<- Hwx.out]
        refine (wir_way _ _ _ _ _ x H1.out H2.out (by have:=Hl.out;have:=Hb.out;have:=Hkm.out;omega)).mono ?_
        rintro e w2 ⟨rfl,h3,hk3⟩
        have H3:=Lib.hid (show Wrote wx w2 (fun b=>X b/\b≠wr.heap.size) l' (lg || !(xs.take k).all yes) q true (Wy.words x) 24 from Wrote.exact h3 hk3 (by simp [Wy.words]))
        clear h3 hk3
        go_wp2_with fail
        go_roundw
        case rel=>exact ⟨k+1,by omega,by go_num,SoFar.next Hx.out Hkp.out Hl.out He.out (Wrote.unbox (by rw [<- Hwx.out];exact H3.out))⟩
        case measure=>simp [intOf];omega
      · have Hso:=Lib.hid hso
        clear hso
        go_wp2_with fail
        go_end0
        exact ⟨rfl,Hso.out.done (by rw [<- Hn.out];omega) (by rw [<- Hn.out];exact Hsm.out) rfl⟩
set_option maxHeartbeats 1000000 in
theorem wir_items_rules (w : World) (X F : Nat -> Prop) (l : List UInt8) (lg : Bool) (q : Nat) (v : Value) (xs : List (Rl)) (h : WirAt w X l lg q) (hX : New w X) (hv : SliceAt rlR w F xs v) (hF : ∀ b, F b -> ¬ X b) (hb : l.length + 19208 <= 140737488355328) :
    Calls Tryz.prog 135 #[.pointer (some ⟨q,0,none⟩),v,.func (.func 136) #[.pointer (some ⟨q,0,none⟩)] #[]] w fun e w'=>e = .returned (.tuple #[])/\Wrote w w' X l lg q (fitL yes xs) (itemsW Rl.words xs) 19208:=by
  obtain ⟨A,n,c,rfl,Hn,hc1,hc2⟩:=hv.form'
  have Hv:=Lib.hid hv
  have Hw:=Lib.hid h
  have HX:=Lib.hid hX
  have HF:=Lib.hid hF
  have Hb:=Lib.hid hb
  obtain ⟨p,hq,hXq,hpw⟩:=h
  have h0:w.cell? ⟨q,0,none⟩=some (.pointer (some ⟨p,0,none⟩)):=cell_of_row w q 0 _ _ _ hq
  have h1:w.cell? ⟨q,1,none⟩=some (.bool lg):=cell_of_row w q 1 _ _ _ hq
  have hf1:w.frozen? ⟨q,1,none⟩=false:=by simp [World.frozen?,hq]
  have Hq:=Lib.hid hq
  have HXq:=Lib.hid hXq
  have Hpw:=Lib.hid hpw
  clear hv hX hF hb hq hXq hpw
  by_cases hbig:200<n
  · have hb1:(200:Int)<(n:Int):=by omega
    have Hbig:=Lib.hid hbig
    clear hbig
    go_enter Tryz.func135,Tryz.ntmps135
    go_wp2_with fail
    (try simp only [Exit.inBlock,Exit.then])
    refine bodyPost_ret (results_none rfl _ _ _) rfl ?_
    exact ⟨rfl,Wrote.over Hw.out (by rw [<- Hn.out];exact Hbig.out)⟩
  · have hb1:(n:Int)<=200:=by omega
    have Hsm:=Lib.hid (show n<=200 by omega)
    clear hbig
    go_enter Tryz.func135,Tryz.ntmps135
    go_wp2_with fail
    refine (Writer_Num _ _ _ _ (n:Int) Hpw.out (by have:=Hb.out;omega)).mono ?_
    rintro e w1 ⟨rfl,h2,hk2⟩
    have hnn:UInt64.ofInt (n:Int)=UInt64.ofNat xs.length:=by rw [<- Hn.out,ofInt_ofNat]
    rw [hnn] at h2
    have H4:=Lib.hid (WirAt.put Hq.out HXq.out HX.out h2 hk2)
    clear h2 hk2 hnn h0 h1 hf1
    go_wp2_with fail
    go_loopw [23] (fun i wr=>∃k:Nat,k<=n/\i = .int .i64 k/\SoFar Rl.words yes 96 w wr X l lg q xs k) (fun i _=>n - (intOf i).toNat)
    case atStart=>exact ⟨0,Nat.zero_le _,rfl,SoFar.start H4.out.1 H4.out.2⟩
    case round =>
      clear H4
      obtain ⟨k,hk,rfl,hso⟩:=hrel
      have q3:(0:Int)<=(k:Int):=by omega
      by_cases hlt:k<n
      · obtain ⟨l',hw,hkp,hl,he⟩:=hso
        have Hkm:=Lib.hid (show k*96<=199*96 from Nat.mul_le_mul_right _ (by have:=Hsm.out;omega))
        have Hkp:=Lib.hid hkp
        have Hl:=Lib.hid hl
        have He:=Lib.hid he
        obtain ⟨x,hx⟩:∃x,xs[k]?=some x:=⟨_,List.getElem?_eq_getElem (by rw [<- Hn.out];exact hlt)⟩
        have Hx:=Lib.hid hx
        obtain ⟨b,off,rfl,hFb,c0,c1,c2,c3,c4,c5,c6,c7,c8,c9,c10,c11⟩:=(Hv.out.kp Hkp.out HF.out).get_Rl hx
        obtain ⟨h1,h2⟩:=hw.box (HX.out.kp hkp) (.cells #[.int .i64 (i64of x.prio),.int .u64 x.mat.value.hi.toNat,.int .u64 x.mat.value.lo.toNat,.int .u64 x.mat.care.hi.toNat,.int .u64 x.mat.care.lo.toNat,.int .i64 (i64of x.act.kind),.int .i64 (i64of x.act.port),.int .i64 (i64of x.act.table),.int .u64 x.act.set.value.hi.toNat,.int .u64 x.act.set.value.lo.toNat,.int .u64 x.act.set.care.hi.toNat,.int .u64 x.act.set.care.lo.toNat] 116)
        obtain ⟨wx,hwx⟩:∃wx,wx=wr.alloc (.cells #[.int .i64 (i64of x.prio),.int .u64 x.mat.value.hi.toNat,.int .u64 x.mat.value.lo.toNat,.int .u64 x.mat.care.hi.toNat,.int .u64 x.mat.care.lo.toNat,.int .i64 (i64of x.act.kind),.int .i64 (i64of x.act.port),.int .i64 (i64of x.act.table),.int .u64 x.act.set.value.hi.toNat,.int .u64 x.act.set.value.lo.toNat,.int .u64 x.act.set.care.hi.toNat,.int .u64 x.act.set.care.lo.toNat] 116):=⟨_,rfl⟩
        rw [<- hwx] at h1 h2
        have Hwx:=Lib.hid hwx
        have H1:=Lib.hid h1
        have H2:=Lib.hid h2
        have q1:(k:Int)<(n:Int):=by omega
        clear hwx h1 h2 hw hkp hl he hx hFb hlt
        go_wp2_with fail
        rw [<- Hwx.out]
        refine (wir_rule _ _ _ _ _ x H1.out H2.out (by have:=Hl.out;have:=Hb.out;have:=Hkm.out;omega)).mono ?_
        rintro e w2 ⟨rfl,h3,hk3⟩
        have H3:=Lib.hid (show Wrote wx w2 (fun b=>X b/\b≠wr.heap.size) l' (lg || !(xs.take k).all yes) q true (Rl.words x) 96 from Wrote.exact h3 hk3 (by simp [Rl.words]))
        clear h3 hk3
        go_wp2_with fail
        go_roundw
        case rel=>exact ⟨k+1,by omega,by go_num,SoFar.next Hx.out Hkp.out Hl.out He.out (Wrote.unbox (by rw [<- Hwx.out];exact H3.out))⟩
        case measure=>simp [intOf];omega
      · have Hso:=Lib.hid hso
        clear hso
        go_wp2_with fail
        go_end0
        exact ⟨rfl,Hso.out.done (by rw [<- Hn.out];omega) (by rw [<- Hn.out];exact Hsm.out) rfl⟩
set_option maxHeartbeats 400000 in
theorem wir_rules (w:World) (X F:Nat->Prop) (l:List UInt8) (lg:Bool) (q:Nat) (v:Value) (xs:List (Rl)) (h:WirAt w X l lg q) (hX:New w X) (hv:SliceAt rlR w F xs v) (hF:∀b,F b->¬X b) (hb:l.length+19208<=140737488355328) :
  Calls Tryz.prog 100 #[.pointer (some ⟨q,0,none⟩),v] w fun e w'=>e = .returned (.tuple #[])/\Wrote w w' X l lg q (rulesFit xs) (rulesW xs) 19208:=by
 have h2:=wir_items_rules w X F l lg q v xs h hX hv hF hb
 have H2:=Lib.hid h2
 clear h2 h hX hv hF hb
 go_enter Tryz.func100,Tryz.ntmps100
 go_wp2_with fail
 refine H2.out.mono ?_
 rintro e w1 ⟨rfl,h3⟩
 have H3:=Lib.hid h3
 clear h3
 go_wp2_with fail
 go_end0
 exact ⟨rfl,H3.out⟩
set_option maxHeartbeats 1000000 in
theorem wir_items_portss (w : World) (X F : Nat -> Prop) (l : List UInt8) (lg : Bool) (q : Nat) (v : Value) (xs : List (List Pt)) (h : WirAt w X l lg q) (hX : New w X) (hv : SliceAt ptR.slice w F xs v) (hF : ∀ b, F b -> ¬ X b) (hb : l.length + 1601608 <= 140737488355328) :
    Calls Tryz.prog 63 #[.pointer (some ⟨q,0,none⟩),v,.func (.func 64) #[.pointer (some ⟨q,0,none⟩)] #[]] w fun e w'=>e = .returned (.tuple #[])/\Wrote w w' X l lg q (fitL portsFit xs) (itemsW portsW xs) 1601608:=by
  obtain ⟨A,n,c,rfl,Hn,hc1,hc2⟩:=hv.form'
  have Hv:=Lib.hid hv
  have Hw:=Lib.hid h
  have HX:=Lib.hid hX
  have HF:=Lib.hid hF
  have Hb:=Lib.hid hb
  obtain ⟨p,hq,hXq,hpw⟩:=h
  have h0:w.cell? ⟨q,0,none⟩=some (.pointer (some ⟨p,0,none⟩)):=cell_of_row w q 0 _ _ _ hq
  have h1:w.cell? ⟨q,1,none⟩=some (.bool lg):=cell_of_row w q 1 _ _ _ hq
  have hf1:w.frozen? ⟨q,1,none⟩=false:=by simp [World.frozen?,hq]
  have Hq:=Lib.hid hq
  have HXq:=Lib.hid hXq
  have Hpw:=Lib.hid hpw
  clear hv hX hF hb hq hXq hpw
  by_cases hbig:200<n
  · have hb1:(200:Int)<(n:Int):=by omega
    have Hbig:=Lib.hid hbig
    clear hbig
    go_enter Tryz.func63,Tryz.ntmps63
    go_wp2_with fail
    (try simp only [Exit.inBlock,Exit.then])
    refine bodyPost_ret (results_none rfl _ _ _) rfl ?_
    exact ⟨rfl,Wrote.over Hw.out (by rw [<- Hn.out];exact Hbig.out)⟩
  · have hb1:(n:Int)<=200:=by omega
    have Hsm:=Lib.hid (show n<=200 by omega)
    clear hbig
    go_enter Tryz.func63,Tryz.ntmps63
    go_wp2_with fail
    refine (Writer_Num _ _ _ _ (n:Int) Hpw.out (by have:=Hb.out;omega)).mono ?_
    rintro e w1 ⟨rfl,h2,hk2⟩
    have hnn:UInt64.ofInt (n:Int)=UInt64.ofNat xs.length:=by rw [<- Hn.out,ofInt_ofNat]
    rw [hnn] at h2
    have H4:=Lib.hid (WirAt.put Hq.out HXq.out HX.out h2 hk2)
    clear h2 hk2 hnn h0 h1 hf1
    go_wp2_with fail
    go_loopw [23] (fun i wr=>∃k:Nat,k<=n/\i = .int .i64 k/\SoFar portsW portsFit 8008 w wr X l lg q xs k) (fun i _=>n - (intOf i).toNat)
    case atStart=>exact ⟨0,Nat.zero_le _,rfl,SoFar.start H4.out.1 H4.out.2⟩
    case round =>
      clear H4
      obtain ⟨k,hk,rfl,hso⟩:=hrel
      have q3:(0:Int)<=(k:Int):=by omega
      by_cases hlt:k<n
      · obtain ⟨l',hw,hkp,hl,he⟩:=hso
        have Hkm:=Lib.hid (show k*8008<=199*8008 from Nat.mul_le_mul_right _ (by have:=Hsm.out;omega))
        have Hkp:=Lib.hid hkp
        have Hl:=Lib.hid hl
        have He:=Lib.hid he
        obtain ⟨x,hx⟩:∃x,xs[k]?=some x:=⟨_,List.getElem?_eq_getElem (by rw [<- Hn.out];exact hlt)⟩
        have Hx:=Lib.hid hx
        obtain ⟨b,off,u,rfl,hFb,hc,hu⟩:=(Hv.out.kp Hkp.out HF.out).get_slice hx
        obtain ⟨A3,n3,c3,rfl,Hn3,hc5,hc6⟩:=hu.form'
        have Hu:=Lib.hid hu
        clear hu
        have H1:=Lib.hid hw
        have H2:=Lib.hid (HX.out.kp hkp)
        have q1:(k:Int)<(n:Int):=by omega
        clear hw hkp hl he hx hFb hlt
        go_wp2_with fail
        skip
        refine (wir_ports _ _ F _ _ _ _ x H1.out H2.out Hu.out HF.out (by have:=Hl.out;have:=Hb.out;have:=Hkm.out;omega)).mono ?_
        rintro e w2 ⟨rfl,h3⟩
        have H3:=Lib.hid h3
        clear h3
        go_wp2_with fail
        go_roundw
        case rel=>exact ⟨k+1,by omega,by go_num,SoFar.next Hx.out Hkp.out Hl.out He.out H3.out⟩
        case measure=>simp [intOf];omega
      · have Hso:=Lib.hid hso
        clear hso
        go_wp2_with fail
        go_end0
        exact ⟨rfl,Hso.out.done (by rw [<- Hn.out];omega) (by rw [<- Hn.out];exact Hsm.out) rfl⟩
set_option maxHeartbeats 1000000 in
theorem wir_items_ruless (w : World) (X F : Nat -> Prop) (l : List UInt8) (lg : Bool) (q : Nat) (v : Value) (xs : List (List Rl)) (h : WirAt w X l lg q) (hX : New w X) (hv : SliceAt rlR.slice w F xs v) (hF : ∀ b, F b -> ¬ X b) (hb : l.length + 3841608 <= 140737488355328) :
    Calls Tryz.prog 99 #[.pointer (some ⟨q,0,none⟩),v,.func (.func 100) #[.pointer (some ⟨q,0,none⟩)] #[]] w fun e w'=>e = .returned (.tuple #[])/\Wrote w w' X l lg q (fitL rulesFit xs) (itemsW rulesW xs) 3841608:=by
  obtain ⟨A,n,c,rfl,Hn,hc1,hc2⟩:=hv.form'
  have Hv:=Lib.hid hv
  have Hw:=Lib.hid h
  have HX:=Lib.hid hX
  have HF:=Lib.hid hF
  have Hb:=Lib.hid hb
  obtain ⟨p,hq,hXq,hpw⟩:=h
  have h0:w.cell? ⟨q,0,none⟩=some (.pointer (some ⟨p,0,none⟩)):=cell_of_row w q 0 _ _ _ hq
  have h1:w.cell? ⟨q,1,none⟩=some (.bool lg):=cell_of_row w q 1 _ _ _ hq
  have hf1:w.frozen? ⟨q,1,none⟩=false:=by simp [World.frozen?,hq]
  have Hq:=Lib.hid hq
  have HXq:=Lib.hid hXq
  have Hpw:=Lib.hid hpw
  clear hv hX hF hb hq hXq hpw
  by_cases hbig:200<n
  · have hb1:(200:Int)<(n:Int):=by omega
    have Hbig:=Lib.hid hbig
    clear hbig
    go_enter Tryz.func99,Tryz.ntmps99
    go_wp2_with fail
    (try simp only [Exit.inBlock,Exit.then])
    refine bodyPost_ret (results_none rfl _ _ _) rfl ?_
    exact ⟨rfl,Wrote.over Hw.out (by rw [<- Hn.out];exact Hbig.out)⟩
  · have hb1:(n:Int)<=200:=by omega
    have Hsm:=Lib.hid (show n<=200 by omega)
    clear hbig
    go_enter Tryz.func99,Tryz.ntmps99
    go_wp2_with fail
    refine (Writer_Num _ _ _ _ (n:Int) Hpw.out (by have:=Hb.out;omega)).mono ?_
    rintro e w1 ⟨rfl,h2,hk2⟩
    have hnn:UInt64.ofInt (n:Int)=UInt64.ofNat xs.length:=by rw [<- Hn.out,ofInt_ofNat]
    rw [hnn] at h2
    have H4:=Lib.hid (WirAt.put Hq.out HXq.out HX.out h2 hk2)
    clear h2 hk2 hnn h0 h1 hf1
    go_wp2_with fail
    go_loopw [23] (fun i wr=>∃k:Nat,k<=n/\i = .int .i64 k/\SoFar rulesW rulesFit 19208 w wr X l lg q xs k) (fun i _=>n - (intOf i).toNat)
    case atStart=>exact ⟨0,Nat.zero_le _,rfl,SoFar.start H4.out.1 H4.out.2⟩
    case round =>
      clear H4
      obtain ⟨k,hk,rfl,hso⟩:=hrel
      have q3:(0:Int)<=(k:Int):=by omega
      by_cases hlt:k<n
      · obtain ⟨l',hw,hkp,hl,he⟩:=hso
        have Hkm:=Lib.hid (show k*19208<=199*19208 from Nat.mul_le_mul_right _ (by have:=Hsm.out;omega))
        have Hkp:=Lib.hid hkp
        have Hl:=Lib.hid hl
        have He:=Lib.hid he
        obtain ⟨x,hx⟩:∃x,xs[k]?=some x:=⟨_,List.getElem?_eq_getElem (by rw [<- Hn.out];exact hlt)⟩
        have Hx:=Lib.hid hx
        obtain ⟨b,off,u,rfl,hFb,hc,hu⟩:=(Hv.out.kp Hkp.out HF.out).get_slice hx
        obtain ⟨A3,n3,c3,rfl,Hn3,hc5,hc6⟩:=hu.form'
        have Hu:=Lib.hid hu
        clear hu
        have H1:=Lib.hid hw
        have H2:=Lib.hid (HX.out.kp hkp)
        have q1:(k:Int)<(n:Int):=by omega
        clear hw hkp hl he hx hFb hlt
        go_wp2_with fail
        skip
        refine (wir_rules _ _ F _ _ _ _ x H1.out H2.out Hu.out HF.out (by have:=Hl.out;have:=Hb.out;have:=Hkm.out;omega)).mono ?_
        rintro e w2 ⟨rfl,h3⟩
        have H3:=Lib.hid h3
        clear h3
        go_wp2_with fail
        go_roundw
        case rel=>exact ⟨k+1,by omega,by go_num,SoFar.next Hx.out Hkp.out Hl.out He.out H3.out⟩
        case measure=>simp [intOf];omega
      · have Hso:=Lib.hid hso
        clear hso
        go_wp2_with fail
        go_end0
        exact ⟨rfl,Hso.out.done (by rw [<- Hn.out];omega) (by rw [<- Hn.out];exact Hsm.out) rfl⟩
set_option maxHeartbeats 400000 in
theorem wir_tables (w:World) (X F:Nat->Prop) (l:List UInt8) (lg:Bool) (q:Nat) (v:Value) (xs:List (List Rl)) (h:WirAt w X l lg q) (hX:New w X) (hv:SliceAt rlR.slice w F xs v) (hF:∀b,F b->¬X b) (hb:l.length+3841608<=140737488355328) :
  Calls Tryz.prog 71 #[.pointer (some ⟨q,0,none⟩),v] w fun e w'=>e = .returned (.tuple #[])/\Wrote w w' X l lg q (tablesFit xs) (tablesW xs) 3841608:=by
 have h2:=wir_items_ruless w X F l lg q v xs h hX hv hF hb
 have H2:=Lib.hid h2
 clear h2 h hX hv hF hb
 go_enter Tryz.func71,Tryz.ntmps71
 go_wp2_with fail
 refine H2.out.mono ?_
 rintro e w1 ⟨rfl,h3⟩
 have H3:=Lib.hid h3
 clear h3
 go_wp2_with fail
 go_end0
 exact ⟨rfl,H3.out⟩
set_option maxHeartbeats 1000000 in
theorem wir_items_tabless (w : World) (X F : Nat -> Prop) (l : List UInt8) (lg : Bool) (q : Nat) (v : Value) (xs : List (List (List Rl))) (h : WirAt w X l lg q) (hX : New w X) (hv : SliceAt rlR.slice.slice w F xs v) (hF : ∀ b, F b -> ¬ X b) (hb : l.length + 768321608 <= 140737488355328) :
    Calls Tryz.prog 70 #[.pointer (some ⟨q,0,none⟩),v,.func (.func 71) #[.pointer (some ⟨q,0,none⟩)] #[]] w fun e w'=>e = .returned (.tuple #[])/\Wrote w w' X l lg q (fitL tablesFit xs) (itemsW tablesW xs) 768321608:=by
  obtain ⟨A,n,c,rfl,Hn,hc1,hc2⟩:=hv.form'
  have Hv:=Lib.hid hv
  have Hw:=Lib.hid h
  have HX:=Lib.hid hX
  have HF:=Lib.hid hF
  have Hb:=Lib.hid hb
  obtain ⟨p,hq,hXq,hpw⟩:=h
  have h0:w.cell? ⟨q,0,none⟩=some (.pointer (some ⟨p,0,none⟩)):=cell_of_row w q 0 _ _ _ hq
  have h1:w.cell? ⟨q,1,none⟩=some (.bool lg):=cell_of_row w q 1 _ _ _ hq
  have hf1:w.frozen? ⟨q,1,none⟩=false:=by simp [World.frozen?,hq]
  have Hq:=Lib.hid hq
  have HXq:=Lib.hid hXq
  have Hpw:=Lib.hid hpw
  clear hv hX hF hb hq hXq hpw
  by_cases hbig:200<n
  · have hb1:(200:Int)<(n:Int):=by omega
    have Hbig:=Lib.hid hbig
    clear hbig
    go_enter Tryz.func70,Tryz.ntmps70
    go_wp2_with fail
    (try simp only [Exit.inBlock,Exit.then])
    refine bodyPost_ret (results_none rfl _ _ _) rfl ?_
    exact ⟨rfl,Wrote.over Hw.out (by rw [<- Hn.out];exact Hbig.out)⟩
  · have hb1:(n:Int)<=200:=by omega
    have Hsm:=Lib.hid (show n<=200 by omega)
    clear hbig
    go_enter Tryz.func70,Tryz.ntmps70
    go_wp2_with fail
    refine (Writer_Num _ _ _ _ (n:Int) Hpw.out (by have:=Hb.out;omega)).mono ?_
    rintro e w1 ⟨rfl,h2,hk2⟩
    have hnn:UInt64.ofInt (n:Int)=UInt64.ofNat xs.length:=by rw [<- Hn.out,ofInt_ofNat]
    rw [hnn] at h2
    have H4:=Lib.hid (WirAt.put Hq.out HXq.out HX.out h2 hk2)
    clear h2 hk2 hnn h0 h1 hf1
    go_wp2_with fail
    go_loopw [23] (fun i wr=>∃k:Nat,k<=n/\i = .int .i64 k/\SoFar tablesW tablesFit 3841608 w wr X l lg q xs k) (fun i _=>n - (intOf i).toNat)
    case atStart=>exact ⟨0,Nat.zero_le _,rfl,SoFar.start H4.out.1 H4.out.2⟩
    case round =>
      clear H4
      obtain ⟨k,hk,rfl,hso⟩:=hrel
      have q3:(0:Int)<=(k:Int):=by omega
      by_cases hlt:k<n
      · obtain ⟨l',hw,hkp,hl,he⟩:=hso
        have Hkm:=Lib.hid (show k*3841608<=199*3841608 from Nat.mul_le_mul_right _ (by have:=Hsm.out;omega))
        have Hkp:=Lib.hid hkp
        have Hl:=Lib.hid hl
        have He:=Lib.hid he
        obtain ⟨x,hx⟩:∃x,xs[k]?=some x:=⟨_,List.getElem?_eq_getElem (by rw [<- Hn.out];exact hlt)⟩
        have Hx:=Lib.hid hx
        obtain ⟨b,off,u,rfl,hFb,hc,hu⟩:=(Hv.out.kp Hkp.out HF.out).get_slice hx
        obtain ⟨A3,n3,c3,rfl,Hn3,hc5,hc6⟩:=hu.form'
        have Hu:=Lib.hid hu
        clear hu
        have H1:=Lib.hid hw
        have H2:=Lib.hid (HX.out.kp hkp)
        have q1:(k:Int)<(n:Int):=by omega
        clear hw hkp hl he hx hFb hlt
        go_wp2_with fail
        skip
        refine (wir_tables _ _ F _ _ _ _ x H1.out H2.out Hu.out HF.out (by have:=Hl.out;have:=Hb.out;have:=Hkm.out;omega)).mono ?_
        rintro e w2 ⟨rfl,h3⟩
        have H3:=Lib.hid h3
        clear h3
        go_wp2_with fail
        go_roundw
        case rel=>exact ⟨k+1,by omega,by go_num,SoFar.next Hx.out Hkp.out Hl.out He.out H3.out⟩
        case measure=>simp [intOf];omega
      · have Hso:=Lib.hid hso
        clear hso
        go_wp2_with fail
        go_end0
        exact ⟨rfl,Hso.out.done (by rw [<- Hn.out];omega) (by rw [<- Hn.out];exact Hsm.out) rfl⟩
end Go.Proofs.YthgbdoofchknhaaGreatDoor
end
section
namespace Go.Proofs.YthgbdoofchknhaaGreatDoor
open Go.RowKit
theorem Wrote.seq {w w1 w2 : World} {X : Nat -> Prop} {l l1 : List UInt8} {lg f1 f2 : Bool} {q : Nat} {ws1 ws2 : List UInt64} {M1 M2 : Nat} (hk : Kp X w w1) (hl : l1.length <= l.length + M1) (he : f1 = true -> l1 = l ++ enc8 ws1)
    (h:Wrote w1 w2 X l1 (lg || !f1) q f2 ws2 M2):Wrote w w2 X l lg q (f1 && f2) (ws1++ws2) (M1+M2):=by
  obtain ⟨l2,h1,h2,h3,h4⟩:=h
  refine ⟨l2,?_,hk.trans h2,by omega,fun hf=>?_⟩
  · have e:(lg || !(f1 && f2))=(lg || !f1 || !f2):=by cases lg <;> cases f1 <;> cases f2 <;> rfl
    rw [e]
    exact h1
  · rw [Bool.and_eq_true] at hf
    rw [h4 hf.2,he hf.1,List.append_assoc,<- enc8_append]
theorem Wrote.of {w w1:World} {X:Nat->Prop} {l:List UInt8} {lg:Bool} {q:Nat} {f f':Bool} {ws ws':List UInt64} {M M':Nat} (h:Wrote w w1 X l lg q f ws M) (hf:f=f') (hw:ws=ws') (hM:M<=M'):Wrote w w1 X l lg q f' ws' M':=by
 subst hf;subst hw
 obtain ⟨l',h1,h2,h3,h4⟩:=h
 exact ⟨l',h1,h2,by omega,h4⟩
set_option maxHeartbeats 2000000 in
theorem wir_config (w:World) (X F:Nat->Prop) (l:List UInt8) (lg:Bool) (q:Nat) (c:Cfg) (v1 v2 v3 v4:Value) (h:WirAt w X l lg q) (hX:New w X) (hv1:SliceAt ptR.slice w F c.ports v1) (hv2:SliceAt prR w F c.peers v2) (hv3:SliceAt wyR w F c.ways v3) (hv4:SliceAt rlR.slice.slice w F c.tables v4)
  (hF:∀b,F b->¬X b) (hb:l.length+1000000000<=140737488355328) :
  Calls Tryz.prog 40 #[.pointer (some ⟨q,0,none⟩),.agg #[v1,.int .i64 (i64of c.tenants),v2,v3,v4]] w fun e w'=>e = .returned (.tuple #[])/\Wrote w w' X l lg q c.fit c.words 1000000000:=by
 obtain ⟨A1,n1,k1,rfl,_,_,_⟩:=hv1.form'
 obtain ⟨A2,n2,k2,rfl,_,_,_⟩:=hv2.form'
 obtain ⟨A3,n3,k3,rfl,_,_,_⟩:=hv3.form'
 obtain ⟨A4,n4,k4,rfl,_,_,_⟩:=hv4.form'
 obtain ⟨h1,h2⟩:=h.box hX (.cells #[.slice A1 n1 k1,.int .i64 (i64of c.tenants),.slice A2 n2 k2,.slice A3 n3 k3,.slice A4 n4 k4] 34)
 obtain ⟨wx,hwx⟩:∃wx,wx=w.alloc (.cells #[.slice A1 n1 k1,.int .i64 (i64of c.tenants),.slice A2 n2 k2,.slice A3 n3 k3,.slice A4 n4 k4] 34):=⟨_,rfl⟩
 have hax:=heap_alloc_new w (.cells #[.slice A1 n1 k1,.int .i64 (i64of c.tenants),.slice A2 n2 k2,.slice A3 n3 k3,.slice A4 n4 k4] 34)
 have hka:Kp No w wx:=by rw [hwx];exact (Kp.refl No w).alloc _
 rw [<- hwx] at hax h1 h2
 have Hwx:=Lib.hid hwx
 have H1:=Lib.hid h1
 have H2:=Lib.hid h2
 have Hb:=Lib.hid hb
 have Hax:=Lib.hid hax
 have Hv1:=Lib.hid (hv1.kp hka (fun _ _=>id))
 have Hv2:=Lib.hid (hv2.kp hka (fun _ _=>id))
 have Hv3:=Lib.hid (hv3.kp hka (fun _ _=>id))
 have Hv4:=Lib.hid (hv4.kp hka (fun _ _=>id))
 have HF:=Lib.hid (show ∀b,F b->¬(X b/\b≠w.heap.size) from fun b hb h=>hF b hb h.1)
 clear h hX hwx hax h1 h2 hb hka hv1 hv2 hv3 hv4 hF
 go_enter Tryz.func40,Tryz.ntmps40
 go_wp2_with fail
 rw [<- Hwx.out]
 refine (wir_items_portss _ _ F _ _ _ _ c.ports H1.out H2.out Hv1.out HF.out (by have:=Hb.out;omega)).mono ?_
 rintro e w1 ⟨rfl,l1,h1,hk1,hl1,he1⟩
 have hax1:=hk1.heap Hax.out (fun h=>h.2 rfl)
 have c1:w1.cell? ⟨w.heap.size,1,none⟩=some (.int .i64 (i64of c.tenants)):=cell_of_row w1 _ 1 _ _ _ hax1
 have H3:=Lib.hid h1
 have Hk1:=Lib.hid hk1
 have Hl1:=Lib.hid hl1
 have He1:=Lib.hid he1
 have Hn1:=Lib.hid (H2.out.kp hk1)
 clear h1 hk1 hax1 hl1 he1
 go_wp2_with fail
 refine (wir_nums_lit w1 _ _ _ _ [c.tenants] _ 1 _ rfl rfl rfl H3.out Hn1.out (by have:=Hb.out;have:=Hl1.out;simp;omega) (by simp)).mono ?_
 rintro e w2 ⟨rfl,h1,hk2⟩
 clear c1
 have Hs2:=Lib.hid (Wrote.seq Hk1.out Hl1.out He1.out (Wrote.exact h1 hk2 (Nat.le_refl _)))
 have Hk2:=Lib.hid (Hk1.out.trans hk2)
 have Hn2:=Lib.hid (Hn1.out.kp hk2)
 have hax2:=Hk2.out.heap Hax.out (fun h=>h.2 rfl)
 have c2:w2.cell? ⟨w.heap.size,2,none⟩=some (.slice A2 n2 k2):=cell_of_row w2 _ 2 _ _ _ hax2
 clear h1 hk2 hax2 H3
 obtain ⟨l2,h2,_,hl2,he2⟩:=Hs2.out
 have H4:=Lib.hid h2
 have Hl2:=Lib.hid hl2
 have He2:=Lib.hid he2
 clear h2 hl2 he2
 go_wp2_with fail
 refine (wir_items_peers _ _ F _ _ _ _ c.peers H4.out Hn2.out (Hv2.out.kp Hk2.out HF.out) HF.out (by have:=Hb.out;have:=Hl2.out;simp at this;omega)).mono ?_
 rintro e w3 ⟨rfl,h3⟩
 clear c2 H4 Hs2
 have Hs3:=Lib.hid (Wrote.seq Hk2.out Hl2.out He2.out h3)
 clear h3
 obtain ⟨l3,h3,hk3,hl3,he3⟩:=Hs3.out
 have Hk3:=Lib.hid hk3
 have Hn3:=Lib.hid (H2.out.kp hk3)
 have hax3:=hk3.heap Hax.out (fun h=>h.2 rfl)
 have c3:w3.cell? ⟨w.heap.size,3,none⟩=some (.slice A3 n3 k3):=cell_of_row w3 _ 3 _ _ _ hax3
 have H4:=Lib.hid h3
 have Hl3:=Lib.hid hl3
 have He3:=Lib.hid he3
 clear h3 hl3 he3 hk3 hax3 Hs3
 go_wp2_with fail
 refine (wir_items_ways _ _ F _ _ _ _ c.ways H4.out Hn3.out (Hv3.out.kp Hk3.out HF.out) HF.out (by have:=Hb.out;have:=Hl3.out;simp at this;omega)).mono ?_
 rintro e w4 ⟨rfl,h4⟩
 clear c3 H4
 have Hs4:=Lib.hid (Wrote.seq Hk3.out Hl3.out He3.out h4)
 clear h4
 obtain ⟨l4,h4,hk4,hl4,he4⟩:=Hs4.out
 have Hk4:=Lib.hid hk4
 have Hn4:=Lib.hid (H2.out.kp hk4)
 have hax4:=hk4.heap Hax.out (fun h=>h.2 rfl)
 have c4:w4.cell? ⟨w.heap.size,4,none⟩=some (.slice A4 n4 k4):=cell_of_row w4 _ 4 _ _ _ hax4
 have H4:=Lib.hid h4
 have Hl4:=Lib.hid hl4
 have He4:=Lib.hid he4
 clear h4 hl4 he4 hk4 hax4 Hs4
 go_wp2_with fail
 refine (wir_items_tabless _ _ F _ _ _ _ c.tables H4.out Hn4.out (Hv4.out.kp Hk4.out HF.out) HF.out (by have:=Hb.out;have:=Hl4.out;simp at this;omega)).mono ?_
 rintro e w5 ⟨rfl,h5⟩
 clear c4
 have Hs5:=Lib.hid (Wrote.seq Hk4.out Hl4.out He4.out h5)
 clear h5
 go_wp2_with fail
 go_end0
 have e1:(fitL portsFit c.ports && true && fitL yes c.peers && fitL yes c.ways && fitL tablesFit c.tables)=c.fit:=by simp [Cfg.fit,Bool.and_assoc]
 have e2:itemsW portsW c.ports++[c.tenants]++itemsW Pr.words c.peers++itemsW Wy.words c.ways++itemsW tablesW c.tables=c.words:=by simp [Cfg.words]
 exact ⟨rfl,Wrote.unbox (by rw [<- Hwx.out];exact Hs5.out.of e1 e2 (by simp))⟩
end Go.Proofs.YthgbdoofchknhaaGreatDoor
end
section
namespace Go.Proofs.YthgbdoofchknhaaGreatDoor
open Go.RowKit
def sealW (ws:List UInt64):List UInt8:=enc8 ws++putF (sumF (enc8 ws)) 8
def WrOut (w w':World) (fit:Bool) (ws:List UInt64) (e:Ending):Prop :=
 Kp No w w'/\((fit=false/\e = .returned (.tuple #[.slice none 0 0,.int .i64 4]))\/(fit=true/\∃v,e = .returned (.tuple #[v,.int .i64 0])/\SliceAt u8R w' (From w.heap.size) (sealW ws) v))
theorem wir_new (w:World):WirAt ((w.alloc (.cells #[.slice none 0 0] 157)).alloc (.cells #[.pointer (some ⟨w.heap.size,0,none⟩),.bool false] 125)) (From w.heap.size) [] false (w.heap.size+1) /\
  New ((w.alloc (.cells #[.slice none 0 0] 157)).alloc (.cells #[.pointer (some ⟨w.heap.size,0,none⟩),.bool false] 125)) (From w.heap.size):=by
 have h:=(WriterAt.new w).clip
 have hz:=alloc_size w (.cells #[.slice none 0 0] 157)
 have ha:=heap_alloc_new (w.alloc (.cells #[.slice none 0 0] 157)) (.cells #[.pointer (some ⟨w.heap.size,0,none⟩),.bool false] 125)
 rw [hz] at ha h
 refine ⟨⟨w.heap.size,ha,Nat.le_succ _,(h.kp ((Kp.refl No _).alloc _) (fun _ _=>id)).mono fun b hb=>⟨hb.1,Nat.ne_of_lt hb.2⟩⟩,fun b hb=>?_⟩
 rw [alloc_size,hz] at hb
 unfold From
 omega
set_option maxHeartbeats 1000000 in
theorem wir_written_config (w : World) (F : Nat -> Prop) (c : Cfg) (v1 v2 v3 v4 : Value) (hv1 : SliceAt ptR.slice w F c.ports v1) (hv2 : SliceAt prR w F c.peers v2) (hv3 : SliceAt wyR w F c.ways v3) (hv4 : SliceAt rlR.slice.slice w F c.tables v4) (hF : ∀ b, F b -> b < w.heap.size) :
    Calls Tryz.prog 39 #[.func (.func 40) #[] #[],.agg #[v1,.int .i64 (i64of c.tenants),v2,v3,v4]] w fun e w'=>WrOut w w' c.fit c.words e:=by
  obtain ⟨A1,n1,k1,rfl,_,_,_⟩:=hv1.form'
  obtain ⟨A2,n2,k2,rfl,_,_,_⟩:=hv2.form'
  obtain ⟨A3,n3,k3,rfl,_,_,_⟩:=hv3.form'
  obtain ⟨A4,n4,k4,rfl,_,_,_⟩:=hv4.form'
  obtain ⟨wx,hwx⟩:∃wx,wx=w.alloc (.cells #[.slice A1 n1 k1,.int .i64 (i64of c.tenants),.slice A2 n2 k2,.slice A3 n3 k3,.slice A4 n4 k4] 34):=⟨_,rfl⟩
  have hax:=heap_alloc_new w (.cells #[.slice A1 n1 k1,.int .i64 (i64of c.tenants),.slice A2 n2 k2,.slice A3 n3 k3,.slice A4 n4 k4] 34)
  have hka:Kp No w wx:=by rw [hwx];exact (Kp.refl No w).alloc _
  have hsz:wx.heap.size=w.heap.size+1:=by rw [hwx,alloc_size]
  rw [<- hwx] at hax
  have hn:=wir_new wx
  obtain ⟨wc,hwc⟩:∃wc,wc=(wx.alloc (.cells #[.slice none 0 0] 157)).alloc (.cells #[.pointer (some ⟨wx.heap.size,0,none⟩),.bool false] 125):=⟨_,rfl⟩
  have hkc:Kp No wx wc:=by rw [hwc];exact ((Kp.refl No wx).alloc _).alloc _
  rw [<- hwc] at hn
  have hfx:∀b,F b->¬From wx.heap.size b:=fun b hb h=>by have:=hF b hb;unfold From at h;omega
  have Hwx:=Lib.hid hwx
  have Hwc:=Lib.hid hwc
  have Hsz:=Lib.hid hsz
  have Hax:=Lib.hid hax
  have Hka:=Lib.hid (hka.trans hkc)
  have Hn:=Lib.hid hn
  have Hfx:=Lib.hid hfx
  have Hv1:=Lib.hid (hv1.kp (hka.trans hkc) (fun _ _=>id))
  have Hv2:=Lib.hid (hv2.kp (hka.trans hkc) (fun _ _=>id))
  have Hv3:=Lib.hid (hv3.kp (hka.trans hkc) (fun _ _=>id))
  have Hv4:=Lib.hid (hv4.kp (hka.trans hkc) (fun _ _=>id))
  clear hwx hwc hax hka hsz hn hkc hfx hF hv1 hv2 hv3 hv4
  go_enter Tryz.func39,Tryz.ntmps39
  go_wp2_with fail
  rw [<- Hwx.out]
  refine (pack_New _).mono ?_
  rintro e w1 ⟨rfl,rfl⟩
  have hc0:∀o1 o2,((wx.alloc o1).alloc o2).cell? ⟨w.heap.size,0,none⟩=some (.slice A1 n1 k1):=fun o1 o2=>cell_of_row _ _ 0 _ _ _ ((((Kp.refl No wx).alloc o1).alloc o2).heap Hax.out id)
  have hc1:∀o1 o2,((wx.alloc o1).alloc o2).cell? ⟨w.heap.size,1,none⟩=some (.int .i64 (i64of c.tenants)):=fun o1 o2=>cell_of_row _ _ 1 _ _ _ ((((Kp.refl No wx).alloc o1).alloc o2).heap Hax.out id)
  have hc2:∀o1 o2,((wx.alloc o1).alloc o2).cell? ⟨w.heap.size,2,none⟩=some (.slice A2 n2 k2):=fun o1 o2=>cell_of_row _ _ 2 _ _ _ ((((Kp.refl No wx).alloc o1).alloc o2).heap Hax.out id)
  have hc3:∀o1 o2,((wx.alloc o1).alloc o2).cell? ⟨w.heap.size,3,none⟩=some (.slice A3 n3 k3):=fun o1 o2=>cell_of_row _ _ 3 _ _ _ ((((Kp.refl No wx).alloc o1).alloc o2).heap Hax.out id)
  have hc4:∀o1 o2,((wx.alloc o1).alloc o2).cell? ⟨w.heap.size,4,none⟩=some (.slice A4 n4 k4):=fun o1 o2=>cell_of_row _ _ 4 _ _ _ ((((Kp.refl No wx).alloc o1).alloc o2).heap Hax.out id)
  go_wp2_with fail
  rw [<- Hwc.out]
  refine (wir_config _ _ F _ _ _ c _ _ _ _ Hn.out.1 Hn.out.2 Hv1.out Hv2.out Hv3.out Hv4.out Hfx.out (by simp)).mono ?_
  rintro e w2 ⟨rfl,l2,h2,hk2,hl2,he2⟩
  clear hc0 hc1 hc2 hc3 hc4
  obtain ⟨p,hq,hXq,hpw⟩:=h2
  by_cases hfit:c.fit=true
  · have e1:(false || !c.fit)=false:=by rw [hfit];rfl
    rw [e1] at hq
    have h1:w2.cell? ⟨wx.heap.size+1,1,none⟩=some (.bool false):=cell_of_row w2 _ 1 _ _ _ hq
    have h0:w2.cell? ⟨wx.heap.size+1,0,none⟩=some (.pointer (some ⟨p,0,none⟩)):=cell_of_row w2 _ 0 _ _ _ hq
    have Hfit:=Lib.hid hfit
    have Hpw:=Lib.hid hpw
    have Hk2:=Lib.hid hk2
    have Hl2:=Lib.hid hl2
    have He2:=Lib.hid (he2 hfit)
    clear e1 hq hXq hpw hfit hk2 hl2 he2
    go_wp2_with fail
    refine (Writer_Bytes _ _ _ _ Hpw.out (by have:=Hl2.out;simp at this;omega)).mono ?_
    rintro e w3 ⟨v3,rfl,hs3,hk3⟩
    have Hs3:=Lib.hid hs3
    have Hk3:=Lib.hid hk3
    clear hs3 hk3 h0 h1
    go_wp2_with fail
    go_ret2
    have hk:=Hka.out.trans2 Hk2.out (fun g hg hb=>by have:=Hsz.out;unfold From at hb;exact absurd hb (by omega))
    refine ⟨hk.trans Hk3.out,.inr ⟨Hfit.out,v3,rfl,?_⟩⟩
    have e2:l2=enc8 c.words:=by rw [He2.out];rfl
    unfold sealW
    rw [<- e2]
    exact Hs3.out.mono fun b _ hb=>Nat.le_trans hk.size hb
  · have hfit':c.fit=false:=by simpa using hfit
    have e1:(false || !c.fit)=true:=by rw [hfit'];rfl
    rw [e1] at hq
    have h1:w2.cell? ⟨wx.heap.size+1,1,none⟩=some (.bool true):=cell_of_row w2 _ 1 _ _ _ hq
    have Hfit:=Lib.hid hfit'
    have Hk2:=Lib.hid hk2
    clear hq hXq hpw hfit hfit' hk2 hl2 he2 e1
    go_wp2_with fail
    go_ret2
    exact ⟨Hka.out.trans2 Hk2.out (fun g hg hb=>by have:=Hsz.out;unfold From at hb;exact absurd hb (by omega)),.inl ⟨Hfit.out,rfl⟩⟩
set_option maxHeartbeats 1000000 in
theorem wir_Config (w:World) (F:Nat->Prop) (c:Cfg) (v1 v2 v3 v4:Value) (hv1:SliceAt ptR.slice w F c.ports v1) (hv2:SliceAt prR w F c.peers v2) (hv3:SliceAt wyR w F c.ways v3) (hv4:SliceAt rlR.slice.slice w F c.tables v4) (hF:∀b,F b->b<w.heap.size) :
  Calls Tryz.prog 20 #[.agg #[v1,.int .i64 (i64of c.tenants),v2,v3,v4]] w fun e w'=>WrOut w w' c.fit c.words e:=by
 obtain ⟨A1,n1,k1,rfl,_,_,_⟩:=hv1.form'
 obtain ⟨A2,n2,k2,rfl,_,_,_⟩:=hv2.form'
 obtain ⟨A3,n3,k3,rfl,_,_,_⟩:=hv3.form'
 obtain ⟨A4,n4,k4,rfl,_,_,_⟩:=hv4.form'
 obtain ⟨wx,hwx⟩:∃wx,wx=w.alloc (.cells #[.slice A1 n1 k1,.int .i64 (i64of c.tenants),.slice A2 n2 k2,.slice A3 n3 k3,.slice A4 n4 k4] 34):=⟨_,rfl⟩
 have hax:=heap_alloc_new w (.cells #[.slice A1 n1 k1,.int .i64 (i64of c.tenants),.slice A2 n2 k2,.slice A3 n3 k3,.slice A4 n4 k4] 34)
 have hka:Kp No w wx:=by rw [hwx];exact (Kp.refl No w).alloc _
 rw [<- hwx] at hax
 have Hwx:=Lib.hid hwx
 have Hka:=Lib.hid hka
 have HF:=Lib.hid (show ∀b,F b->b<wx.heap.size from fun b hb=>Nat.lt_of_lt_of_le (hF b hb) hka.size)
 have Hv1:=Lib.hid (hv1.kp hka (fun _ _=>id))
 have Hv2:=Lib.hid (hv2.kp hka (fun _ _=>id))
 have Hv3:=Lib.hid (hv3.kp hka (fun _ _=>id))
 have Hv4:=Lib.hid (hv4.kp hka (fun _ _=>id))
 have hc0:wx.cell? ⟨w.heap.size,0,none⟩=some (.slice A1 n1 k1):=cell_of_row _ _ 0 _ _ _ hax
 have hc1:wx.cell? ⟨w.heap.size,1,none⟩=some (.int .i64 (i64of c.tenants)):=cell_of_row _ _ 1 _ _ _ hax
 have hc2:wx.cell? ⟨w.heap.size,2,none⟩=some (.slice A2 n2 k2):=cell_of_row _ _ 2 _ _ _ hax
 have hc3:wx.cell? ⟨w.heap.size,3,none⟩=some (.slice A3 n3 k3):=cell_of_row _ _ 3 _ _ _ hax
 have hc4:wx.cell? ⟨w.heap.size,4,none⟩=some (.slice A4 n4 k4):=cell_of_row _ _ 4 _ _ _ hax
 clear hwx hax hka hF hv1 hv2 hv3 hv4
 go_enter Tryz.func20,Tryz.ntmps20
 go_wp2_with fail
 rw [<- Hwx.out]
 go_wp2_with fail
 refine (wir_written_config _ F c _ _ _ _ Hv1.out Hv2.out Hv3.out Hv4.out HF.out).mono ?_
 rintro e w1 ⟨hk1,hc⟩
 have Hk:=Lib.hid (Hka.out.trans hk1)
 clear hk1 hc0 hc1 hc2 hc3 hc4
 rcases hc with ⟨hf,rfl⟩ | ⟨hf,v,rfl,hs⟩
 ·have Hf:=Lib.hid hf
  clear hf
  go_wp2_with fail
  go_ret2
  exact ⟨Hk.out,.inl ⟨Hf.out,rfl⟩⟩
 ·have Hf:=Lib.hid hf
  have Hs:=Lib.hid hs
  clear hf hs
  go_wp2_with fail
  go_ret2
  exact ⟨Hk.out,.inr ⟨Hf.out,v,rfl,Hs.out.mono fun b _ hb=>Nat.le_trans Hka.out.size hb⟩⟩
end Go.Proofs.YthgbdoofchknhaaGreatDoor
end
section
namespace Go.Proofs.YthgbdoofchknhaaGreatDoor
open Go.RowKit
theorem SliceAt.clip {α:Type} {R:Rep α} {w:World} {F:Nat->Prop} {xs:List α} {v:Value} (h:SliceAt R w F xs v):SliceAt R w (fun b=>F b/\b<w.heap.size) xs v:=h.mono fun _ hlt hb=>⟨hb,hlt⟩
theorem ReaderAt.clip {w:World} {X:Nat->Prop} {r:Rd} {p:Nat} (h:ReaderAt w X r p):ReaderAt w (fun b=>X b/\b<w.heap.size) r p:=by
 obtain ⟨hp,sv,hh,ho⟩:=h
 exact ⟨⟨hp,(Array.getElem?_eq_some_iff.1 hh).1⟩,sv,hh,ho.mono fun b hlt hb=>⟨⟨hb.1,hlt⟩,hb.2⟩⟩
theorem rir_new {w:World} {B:Nat} {r:Rd} {p:Nat} (h:ReaderAt w (From B) r p) (hB:B<=w.heap.size):RirAt (w.alloc (.cells #[.pointer (some ⟨p,0,none⟩),.bool false] 191)) (fun b=>B<=b/\b<w.heap.size+1) (r,false) w.heap.size p:=by
 refine ⟨heap_alloc_new w _,⟨hB,Nat.lt_succ_self _⟩,fun b hb=>by rw [alloc_size];exact hb.2,?_⟩
 obtain ⟨hp,sv,hh,ho⟩:=h.clip
 refine ⟨⟨⟨hp.1,Nat.lt_succ_of_lt hp.2⟩,Nat.ne_of_lt hp.2⟩,sv,((Kp.refl No w).alloc _).heap hh id,?_⟩
 exact (ho.kp ((Kp.refl No w).alloc _) (fun _ _=>id)).mono fun b _ hb=>⟨⟨⟨hb.1.1,Nat.lt_succ_of_lt hb.1.2⟩,Nat.ne_of_lt hb.1.2⟩,hb.2⟩
theorem bytes_Equal (w:World) (F G:Nat->Prop) (a b:List UInt8) (u v:Value) (h:SliceAt u8R w F a u) (k:SliceAt u8R w G b v) :
  Calls Tryz.prog 124 #[u,v] w fun e w'=>e = .returned (.bool ((bs a).toList == (bs b).toList))/\w=w':=by
 have h1:=run_conv_str Tryz.underlying66 Tryz.underlying5 Tryz.underlying9 h
 have h2:=run_conv_str Tryz.underlying66 Tryz.underlying5 Tryz.underlying9 k
 clear h k
 go_enter Tryz.func124,Tryz.ntmps124
 go_wp2_with fail
 go_ret
 exact ⟨rfl,rfl⟩
def IsEnc {α:Type} (fit:α->Bool) (words:α->List UInt64) (x:α) (l:List UInt8):Prop:=fit x=true/\l=sealW (words x)
theorem isEnc_read {α:Type} {fit:α->Bool} {words:α->List UInt64} {rd:RS->α × RS} (hr:∀x,fit x=true->Reads rd words x) {x:α} {l:List UInt8} (h:IsEnc fit words x l):rd (readF l,false)=(x,(⟨[],0⟩,false)):=by
 have e:=hr x h.1 []
 rw [List.append_nil] at e
 rw [h.2,sealW,readF_seal]
 exact e
theorem isEnc_bad {α:Type} {fit:α->Bool} {words:α->List UInt64} {rd:RS->α × RS} (hr:∀x,fit x=true->Reads rd words x) {l:List UInt8} {c:α} {s:RS} (hc:rd (readF l,false)=(c,s)) (h:s.2=true\/s.1.end_≠0):¬∃x,IsEnc fit words x l:=by
 rintro ⟨x,hx⟩
 have e:=(isEnc_read hr hx).symm.trans hc
 injection e with e1 e2
 subst e2
 rcases h with h | h
 ·cases h
 ·exact h rfl
theorem isEnc_no {α:Type} {fit:α->Bool} {words:α->List UInt64} {rd:RS->α × RS} (hr:∀x,fit x=true->Reads rd words x) {l:List UInt8} {c:α} {s:RS} (hc:rd (readF l,false)=(c,s)) (h:¬IsEnc fit words c l):¬∃x,IsEnc fit words x l:=by
 rintro ⟨x,hx⟩
 have e:=(isEnc_read hr hx).symm.trans hc
 injection e with e1 e2
 subst e1
 exact h hx
def RdConfig (w w':World) (l:List UInt8) (e:Ending):Prop :=
 Kp No w w'/\((∃x:Cfg,IsEnc Cfg.fit Cfg.words x l/\∃v1 v2 v3 v4,e = .returned (.tuple #[.agg #[v1,.int .i64 (i64of x.tenants),v2,v3,v4],.int .i64 0])/\SliceAt ptR.slice w' (From w.heap.size) x.ports v1/\SliceAt prR w' (From w.heap.size) x.peers v2/\SliceAt wyR w' (From w.heap.size) x.ways v3/\SliceAt rlR.slice.slice w' (From w.heap.size) x.tables v4)\/((¬∃x:Cfg,IsEnc Cfg.fit Cfg.words x l)/\e = .returned (.tuple #[.agg #[.slice none 0 0,.int .i64 0,.slice none 0 0,.slice none 0 0,.slice none 0 0],.int .i64 2])))
set_option maxHeartbeats 1000000 in
theorem wir_read_Config (w : World) (F : Nat -> Prop) (l : List UInt8) (v : Value) (h : SliceAt u8R w F l v) (hF : ∀ b, F b -> b < w.heap.size) (hb : l.length <= 140737488355328) :
    Calls Tryz.prog 88 #[v,.func (.func 89) #[] #[],.func (.func 20) #[] #[]] w fun e w'=>RdConfig w w' l e:=by
  obtain ⟨A,m,c0,rfl,Hm,hc1,hc2⟩:=h.form'
  have H:=Lib.hid h
  have HF:=Lib.hid hF
  have Hb:=Lib.hid hb
  obtain ⟨⟨c,r',lg⟩,hcs⟩:∃y,rdCfg (readF l,false)=y:=⟨_,rfl⟩
  have Hcs:=Lib.hid hcs
  clear h hF hb hcs
  go_enter Tryz.func88,Tryz.ntmps88
  go_wp2_with fail
  have k0:Kp (From w.heap.size) w ((w.alloc (.cells #[.slice none 0 0,.int .i64 0,.slice none 0 0,.slice none 0 0,.slice none 0 0] 34)).alloc (.cells #[.slice none 0 0,.int .i64 0,.slice none 0 0,.slice none 0 0,.slice none 0 0] 34)):=(by repeat (first | with_reducible exact Kp.refl _ _ | with_reducible refine Kp.alloc ?_ _ | with_reducible refine Kp.drew ?_ | with_reducible refine Kp.drewN ?_ _ | with_reducible refine Kp.setRow ?_ (from_le (by first | exact Nat.le_refl _ | omega)) _ | with_reducible refine Kp.setCell ?_ (Or.inl (from_le (by first | (dsimp only;omega) | omega | (simp;omega) | (simp;done)))) _))
  refine (pack_Read _ F _ l (H.out.kp k0 (fun b hb h=>absurd (HF.out b hb) (by unfold From at h;omega))) Hb.out).mono ?_
  rintro e w1 ⟨p,rfl,h1,hk1⟩
  have a0:=hk1.heap (((Kp.refl No _).alloc (.cells #[.slice none 0 0,.int .i64 0,.slice none 0 0,.slice none 0 0,.slice none 0 0] 34)).heap (heap_alloc_new w (.cells #[.slice none 0 0,.int .i64 0,.slice none 0 0,.slice none 0 0,.slice none 0 0] 34)) id) id
  have b0:=hk1.heap (heap_alloc_new (w.alloc (.cells #[.slice none 0 0,.int .i64 0,.slice none 0 0,.slice none 0 0,.slice none 0 0] 34)) (.cells #[.slice none 0 0,.int .i64 0,.slice none 0 0,.slice none 0 0,.slice none 0 0] 34)) id
  rw [alloc_size,alloc_size] at h1
  rw [alloc_size] at b0
  have z1:w.heap.size+1<w1.heap.size:=(Array.getElem?_eq_some_iff.1 b0).1
  have H1:=Lib.hid (rir_new h1 (by omega))
  have HX:=Lib.hid (show ∀b,(fun b=>w.heap.size+1+1<=b/\b<w1.heap.size+1) b->¬From (w1.heap.size+1) b from fun b hb h=>by have:=hb.2;unfold From at h;omega)
  have Hk1:=Lib.hid (k0.trans (hk1.mono (S':=From w.heap.size) fun _ _ h=>h.elim))
  have Ha0:=Lib.hid a0
  have Hb0:=Lib.hid b0
  have hp2:w.heap.size+1+1<=p:=H1.out.2.2.2.1.1.1
  clear h1 k0 hk1 a0 b0
  go_wp2_with fail
  refine (rir_config _ _ _ _ _ H1.out).mono ?_
  rintro e w2 ⟨v1,v2,v3,v4,he,hs1,hs2,hs3,hs4,h2,hk2⟩
  rw [Hcs.out] at he hs1 hs2 hs3 hs4 h2
  dsimp only at he hs1 hs2 hs3 hs4 h2
  obtain ⟨A1,n1,k1,rfl,_,_,_⟩:=hs1.form'
  obtain ⟨A2,n2,k2,rfl,_,_,_⟩:=hs2.form'
  obtain ⟨A3,n3,k3,rfl,_,_,_⟩:=hs3.form'
  obtain ⟨A4,n4,k4,rfl,_,_,_⟩:=hs4.form'
  subst he
  have ra:=hk2.heap (((Kp.refl No w1).alloc _).heap Ha0.out id) (by unfold Two;omega)
  have rb:=hk2.heap (((Kp.refl No w1).alloc _).heap Hb0.out id) (by unfold Two;omega)
  have a0:w2.cell? ⟨w.heap.size,0,none⟩=some (.slice none 0 0):=cell_of_row _ _ 0 _ _ _ ra
  have a1:w2.cell? ⟨w.heap.size,1,none⟩=some (.int .i64 0):=cell_of_row _ _ 1 _ _ _ ra
  have a2:w2.cell? ⟨w.heap.size,2,none⟩=some (.slice none 0 0):=cell_of_row _ _ 2 _ _ _ ra
  have a3:w2.cell? ⟨w.heap.size,3,none⟩=some (.slice none 0 0):=cell_of_row _ _ 3 _ _ _ ra
  have a4:w2.cell? ⟨w.heap.size,4,none⟩=some (.slice none 0 0):=cell_of_row _ _ 4 _ _ _ ra
  have af:∀o,w2.frozen? ⟨w.heap.size,o,none⟩=false:=fun o=>frz_of_row _ _ o _ _ ra
  have b0:w2.cell? ⟨w.heap.size+1,0,none⟩=some (.slice none 0 0):=cell_of_row _ _ 0 _ _ _ rb
  have b1:w2.cell? ⟨w.heap.size+1,1,none⟩=some (.int .i64 0):=cell_of_row _ _ 1 _ _ _ rb
  have b2:w2.cell? ⟨w.heap.size+1,2,none⟩=some (.slice none 0 0):=cell_of_row _ _ 2 _ _ _ rb
  have b3:w2.cell? ⟨w.heap.size+1,3,none⟩=some (.slice none 0 0):=cell_of_row _ _ 3 _ _ _ rb
  have b4:w2.cell? ⟨w.heap.size+1,4,none⟩=some (.slice none 0 0):=cell_of_row _ _ 4 _ _ _ rb
  have bf:∀o,w2.frozen? ⟨w.heap.size+1,o,none⟩=false:=fun o=>frz_of_row _ _ o _ _ rb
  have q0:=h2.c0
  have q1:=h2.c1
  have z2:w1.heap.size<w2.heap.size:=h2.lt.1
  have z3:w.heap.size<w2.heap.size:=by omega
  have z4:w.heap.size+1<w2.heap.size:=by omega
  have Hk2:=Lib.hid ((Hk1.out.trans (show Kp (From w.heap.size) w1 _ from (by repeat (first | with_reducible exact Kp.refl _ _ | with_reducible refine Kp.alloc ?_ _ | with_reducible refine Kp.drew ?_ | with_reducible refine Kp.drewN ?_ _ | with_reducible refine Kp.setRow ?_ (from_le (by first | exact Nat.le_refl _ | omega)) _ | with_reducible refine Kp.setCell ?_ (Or.inl (from_le (by first | (dsimp only;omega) | omega | (simp;omega) | (simp;done)))) _)))).trans (hk2.mono (S':=From w.heap.size) fun b _ hb=>by unfold Two at hb;unfold From;omega))
  have H2:=Lib.hid h2
  rw [alloc_size] at hs1
  have Hs1:=Lib.hid hs1
  rw [alloc_size] at hs2
  have Hs2:=Lib.hid hs2
  rw [alloc_size] at hs3
  have Hs3:=Lib.hid hs3
  rw [alloc_size] at hs4
  have Hs4:=Lib.hid hs4
  clear hk2 h2 ra rb hs1 hs2 hs3 hs4
  cases lg
  case true =>
    have hno:=Lib.hid (isEnc_bad (words:=Cfg.words) (fit:=Cfg.fit) (fun x hx=>reads_cfg x hx) Hcs.out (.inl rfl))
    go_wp2_with fail
    refine bodyPost_ret (v:=.tuple #[.agg #[.slice none 0 0,.int .i64 0,.slice none 0 0,.slice none 0 0,.slice none 0 0],.int .i64 2]) ?_ rfl ⟨(Hk2.out.trans (show Kp (From w.heap.size) w2 _ from (by repeat (first | with_reducible exact Kp.refl _ _ | with_reducible refine Kp.alloc ?_ _ | with_reducible refine Kp.drew ?_ | with_reducible refine Kp.drewN ?_ _ | with_reducible refine Kp.setRow ?_ (from_le (by first | exact Nat.le_refl _ | omega)) _ | with_reducible refine Kp.setCell ?_ (Or.inl (from_le (by first | (dsimp only;omega) | omega | (simp;omega) | (simp;done)))) _)))).fresh,.inr ⟨hno.out,rfl⟩⟩
    simp [results,Tryz.results88,go_sem,a0,a1,a2,a3,a4,z3]
  case false =>
    go_wp2_with fail
    refine (Reader_End _ _ r' p (H2.out.kp (S:=From (w1.heap.size+1)) (by repeat (first | with_reducible exact Kp.refl _ _ | with_reducible refine Kp.alloc ?_ _ | with_reducible refine Kp.drew ?_ | with_reducible refine Kp.drewN ?_ _ | with_reducible refine Kp.setRow ?_ (from_le (by first | exact Nat.le_refl _ | omega)) _ | with_reducible refine Kp.setCell ?_ (Or.inl (from_le (by first | (dsimp only;omega) | omega | (simp;omega) | (simp;done)))) _)) HX.out).2.2.2).mono ?_
    rintro e w3 ⟨rfl,rfl⟩
    by_cases hend:r'.end_=0
    · have te:(r'.end_ != 0)=false:=by simp [hend]
      clear hend
      go_wp2_with fail
      have kx:Kp (From w2.heap.size) w2 (w2.alloc (.cells #[.slice A1 n1 k1,.int .i64 (i64of c.tenants),.slice A2 n2 k2,.slice A3 n3 k3,.slice A4 n4 k4] 34)):=(by repeat (first | with_reducible exact Kp.refl _ _ | with_reducible refine Kp.alloc ?_ _ | with_reducible refine Kp.drew ?_ | with_reducible refine Kp.drewN ?_ _ | with_reducible refine Kp.setRow ?_ (from_le (by first | exact Nat.le_refl _ | omega)) _ | with_reducible refine Kp.setCell ?_ (Or.inl (from_le (by first | (dsimp only;omega) | omega | (simp;omega) | (simp;done)))) _))
      have offx:∀b,From (w1.heap.size+1) b/\b<w2.heap.size->¬From w2.heap.size b:=fun b hb h=>by unfold From at h;omega
      refine (wir_Config _ (fun b=>From (w1.heap.size+1) b/\b<w2.heap.size) c _ _ _ _ ((Hs1.out.clip).kp kx offx) ((Hs2.out.clip).kp kx offx) ((Hs3.out.clip).kp kx offx) ((Hs4.out.clip).kp kx offx) (fun b hb=>by simp;omega)).mono ?_
      rintro e w4 ⟨hk4,hc⟩
      obtain ⟨p1,p2,p3⟩:=hk4.reads w.heap.size (not_no _) (by simp;omega)
      obtain ⟨p4,p5,p6⟩:=hk4.reads (w.heap.size+1) (not_no _) (by simp;omega)
      obtain ⟨p7,p8,p9⟩:=hk4.reads w2.heap.size (not_no _) (by simp)
      have Hk4:=Lib.hid ((Hk2.out.trans (kx.mono (S':=From w.heap.size) fun b _ hb=>Nat.le_trans (Nat.le_of_lt z3) hb)).trans (hk4.mono (S':=From w.heap.size) fun _ _ h=>h.elim))
      have Hs1:=Lib.hid ((Hs1.out.clip.kp kx offx).kp hk4 (fun _ _=>id))
      have Hs2:=Lib.hid ((Hs2.out.clip.kp kx offx).kp hk4 (fun _ _=>id))
      have Hs3:=Lib.hid ((Hs3.out.clip.kp kx offx).kp hk4 (fun _ _=>id))
      have Hs4:=Lib.hid ((Hs4.out.clip.kp kx offx).kp hk4 (fun _ _=>id))
      clear hk4 kx offx
      rcases hc with ⟨hf,rfl⟩ | ⟨hf,v,rfl,hs⟩
      · have hno:=Lib.hid (isEnc_no (words:=Cfg.words) (fit:=Cfg.fit) (fun x hx=>reads_cfg x hx) Hcs.out (fun h=>Bool.noConfusion (hf.symm.trans h.1)))
        clear hf
        go_wp2_with fail
        refine bodyPost_ret (v:=.tuple #[.agg #[.slice none 0 0,.int .i64 0,.slice none 0 0,.slice none 0 0,.slice none 0 0],.int .i64 2]) ?_ rfl ⟨(Hk4.out.trans (show Kp (From w.heap.size) w4 _ from (by repeat (first | with_reducible exact Kp.refl _ _ | with_reducible refine Kp.alloc ?_ _ | with_reducible refine Kp.drew ?_ | with_reducible refine Kp.drewN ?_ _ | with_reducible refine Kp.setRow ?_ (from_le (by first | exact Nat.le_refl _ | omega)) _ | with_reducible refine Kp.setCell ?_ (Or.inl (from_le (by first | (dsimp only;omega) | omega | (simp;omega) | (simp;done)))) _)))).fresh,.inr ⟨hno.out,rfl⟩⟩
        simp [results,Tryz.results88,go_sem,a0,a1,a2,a3,a4,z3,p1,p2,p3]
      · have Hsv:=Lib.hid hs
        have hF4:∀b,F b->¬From w.heap.size b:=fun b hb h=>absurd (HF.out b hb) (by unfold From at h;omega)
        by_cases hl:l=sealW (Cfg.words c)
        · have te1:((bs l).toList == (bs (sealW (Cfg.words c))).toList)=true:=toList_same (by rw [<- hl])
          have Hen:=Lib.hid (show IsEnc Cfg.fit Cfg.words c l from ⟨hf,hl⟩)
          have HF4:=Lib.hid hF4
          obtain ⟨A9,n9,k9,rfl,_,_,_⟩:=hs.form'
          clear hs hl hf hF4
          go_wp2_with fail
          refine (bytes_Equal _ F _ l _ _ _ (H.out.kp Hk4.out HF4.out) Hsv.out).mono ?_
          rintro e w5 ⟨rfl,rfl⟩
          go_wp2_with fail
          have kf:Kp (fun b=>b=w.heap.size) w4 (((((w4.setCell ⟨w.heap.size,0,none⟩ (.slice A1 n1 k1)).setCell ⟨w.heap.size,1,none⟩ (.int .i64 (i64of c.tenants))).setCell ⟨w.heap.size,2,none⟩ (.slice A2 n2 k2)).setCell ⟨w.heap.size,3,none⟩ (.slice A3 n3 k3)).setCell ⟨w.heap.size,4,none⟩ (.slice A4 n4 k4)):=(by repeat (first | with_reducible exact Kp.refl _ _ | with_reducible refine Kp.setCell ?_ (Or.inl (by dsimp only)) _))
          refine bodyPost_ret (v:=.tuple #[.agg #[.slice A1 n1 k1,.int .i64 (i64of c.tenants),.slice A2 n2 k2,.slice A3 n3 k3,.slice A4 n4 k4],.int .i64 0]) ?_ rfl ⟨(Hk4.out.trans (kf.mono fun b _ hb=>by rw [hb];exact Nat.le_refl _)).fresh,.inl ⟨c,Hen.out,_,_,_,_,rfl,(Hs1.out.kp kf (fun b hb e=>absurd hb.1 (by unfold From;omega))).mono fun b _ hb=>(show w.heap.size<=b from Nat.le_trans (by omega) hb.1),(Hs2.out.kp kf (fun b hb e=>absurd hb.1 (by unfold From;omega))).mono fun b _ hb=>(show w.heap.size<=b from Nat.le_trans (by omega) hb.1),(Hs3.out.kp kf (fun b hb e=>absurd hb.1 (by unfold From;omega))).mono fun b _ hb=>(show w.heap.size<=b from Nat.le_trans (by omega) hb.1),(Hs4.out.kp kf (fun b hb e=>absurd hb.1 (by unfold From;omega))).mono fun b _ hb=>(show w.heap.size<=b from Nat.le_trans (by omega) hb.1)⟩⟩
          simp [results,Tryz.results88,go_sem,a0,a1,a2,a3,a4,z3,p1,p2,p3,p7]
        · have te1:((bs l).toList == (bs (sealW (Cfg.words c))).toList)=false:=toList_ne (fun h=>hl (bs_inj h))
          have hno:=Lib.hid (isEnc_no (words:=Cfg.words) (fit:=Cfg.fit) (fun x hx=>reads_cfg x hx) Hcs.out (fun h=>hl h.2))
          have HF4:=Lib.hid hF4
          obtain ⟨A9,n9,k9,rfl,_,_,_⟩:=hs.form'
          clear hs hl hf hF4
          go_wp2_with fail
          refine (bytes_Equal _ F _ l _ _ _ (H.out.kp Hk4.out HF4.out) Hsv.out).mono ?_
          rintro e w5 ⟨rfl,rfl⟩
          go_wp2_with fail
          refine bodyPost_ret (v:=.tuple #[.agg #[.slice none 0 0,.int .i64 0,.slice none 0 0,.slice none 0 0,.slice none 0 0],.int .i64 2]) ?_ rfl ⟨(Hk4.out.trans (show Kp (From w.heap.size) w4 _ from (by repeat (first | with_reducible exact Kp.refl _ _ | with_reducible refine Kp.alloc ?_ _ | with_reducible refine Kp.drew ?_ | with_reducible refine Kp.drewN ?_ _ | with_reducible refine Kp.setRow ?_ (from_le (by first | exact Nat.le_refl _ | omega)) _ | with_reducible refine Kp.setCell ?_ (Or.inl (from_le (by first | (dsimp only;omega) | omega | (simp;omega) | (simp;done)))) _)))).fresh,.inr ⟨hno.out,rfl⟩⟩
          simp [results,Tryz.results88,go_sem,a0,a1,a2,a3,a4,z3,p1,p2,p3]
    · have te:(r'.end_ != 0)=true:=by simpa using hend
      have hno:=Lib.hid (isEnc_bad (words:=Cfg.words) (fit:=Cfg.fit) (fun x hx=>reads_cfg x hx) Hcs.out (.inr hend))
      clear hend
      go_wp2_with fail
      refine bodyPost_ret (v:=.tuple #[.agg #[.slice none 0 0,.int .i64 0,.slice none 0 0,.slice none 0 0,.slice none 0 0],.int .i64 2]) ?_ rfl ⟨(Hk2.out.trans (show Kp (From w.heap.size) w2 _ from (by repeat (first | with_reducible exact Kp.refl _ _ | with_reducible refine Kp.alloc ?_ _ | with_reducible refine Kp.drew ?_ | with_reducible refine Kp.drewN ?_ _ | with_reducible refine Kp.setRow ?_ (from_le (by first | exact Nat.le_refl _ | omega)) _ | with_reducible refine Kp.setCell ?_ (Or.inl (from_le (by first | (dsimp only;omega) | omega | (simp;omega) | (simp;done)))) _)))).fresh,.inr ⟨hno.out,rfl⟩⟩
      simp [results,Tryz.results88,go_sem,a0,a1,a2,a3,a4,z3]
set_option maxHeartbeats 1000000 in
theorem wir_ReadConfig (w:World) (F:Nat->Prop) (l:List UInt8) (v:Value) (h:SliceAt u8R w F l v) (hF:∀b,F b->b<w.heap.size) (hb:l.length<=140737488355328) :
  Calls Tryz.prog 58 #[v] w fun e w'=>RdConfig w w' l e:=by
 obtain ⟨A,m,c0,rfl,Hm,hc1,hc2⟩:=h.form'
 have H:=Lib.hid h
 have HF:=Lib.hid hF
 have Hb:=Lib.hid hb
 clear h hF hb
 go_enter Tryz.func58,Tryz.ntmps58
 go_wp2_with fail
 have k0:Kp No w (w.alloc (.cells #[.slice none 0 0,.int .i64 0,.slice none 0 0,.slice none 0 0,.slice none 0 0] 34)):=(Kp.refl _ _).alloc _
 refine (wir_read_Config _ F l _ (H.out.kp k0 (fun _ _=>id)) (fun b hb=>Nat.lt_of_lt_of_le (HF.out b hb) k0.size) Hb.out).mono ?_
 rintro e w1 ⟨hk1,hc⟩
 have ra:=hk1.heap (heap_alloc_new w _) id
 have a0:w1.cell? ⟨w.heap.size,0,none⟩=some (.slice none 0 0):=cell_of_row _ _ 0 _ _ _ ra
 have a1:w1.cell? ⟨w.heap.size,1,none⟩=some (.int .i64 0):=cell_of_row _ _ 1 _ _ _ ra
 have a2:w1.cell? ⟨w.heap.size,2,none⟩=some (.slice none 0 0):=cell_of_row _ _ 2 _ _ _ ra
 have a3:w1.cell? ⟨w.heap.size,3,none⟩=some (.slice none 0 0):=cell_of_row _ _ 3 _ _ _ ra
 have a4:w1.cell? ⟨w.heap.size,4,none⟩=some (.slice none 0 0):=cell_of_row _ _ 4 _ _ _ ra
 have af:∀o,w1.frozen? ⟨w.heap.size,o,none⟩=false:=fun o=>frz_of_row _ _ o _ _ ra
 have z1:w.heap.size<w1.heap.size:=(Array.getElem?_eq_some_iff.1 ra).1
 have Hk:=Lib.hid (k0.trans hk1)
 rw [alloc_size] at hc
 clear hk1 k0 ra
 rcases hc with ⟨x,hx,v1,v2,v3,v4,rfl,hs1,hs2,hs3,hs4⟩ | ⟨hno,rfl⟩
 ·have Hx:=Lib.hid hx
  obtain ⟨A1,n1,k1,rfl,_,_,_⟩:=hs1.form'
  obtain ⟨A2,n2,k2,rfl,_,_,_⟩:=hs2.form'
  obtain ⟨A3,n3,k3,rfl,_,_,_⟩:=hs3.form'
  obtain ⟨A4,n4,k4,rfl,_,_,_⟩:=hs4.form'
  have Hs1:=Lib.hid hs1
  have Hs2:=Lib.hid hs2
  have Hs3:=Lib.hid hs3
  have Hs4:=Lib.hid hs4
  clear hx hs1 hs2 hs3 hs4
  go_wp2_with fail
  have kf:Kp (fun b=>b=w.heap.size) w1 (((((w1.setCell ⟨w.heap.size,0,none⟩ (.slice A1 n1 k1)).setCell ⟨w.heap.size,1,none⟩ (.int .i64 (i64of x.tenants))).setCell ⟨w.heap.size,2,none⟩ (.slice A2 n2 k2)).setCell ⟨w.heap.size,3,none⟩ (.slice A3 n3 k3)).setCell ⟨w.heap.size,4,none⟩ (.slice A4 n4 k4)):=(by repeat (first | with_reducible exact Kp.refl _ _ | with_reducible refine Kp.setCell ?_ (Or.inl (by dsimp only)) _))
  refine bodyPost_ret (v:=.tuple #[.agg #[.slice A1 n1 k1,.int .i64 (i64of x.tenants),.slice A2 n2 k2,.slice A3 n3 k3,.slice A4 n4 k4],.int .i64 0]) ?_ rfl ⟨(((Hk.out.mono (S':=From w.heap.size) (fun _ _ h=>h.elim)).trans (kf.mono fun b _ hb=>by rw [hb];exact Nat.le_refl _))).fresh,.inl ⟨x,Hx.out,_,_,_,_,rfl,(Hs1.out.kp kf (fun b hb e=>absurd hb (by unfold From;omega))).mono fun b _ hb=>(show w.heap.size<=b from Nat.le_trans (Nat.le_succ _) hb),(Hs2.out.kp kf (fun b hb e=>absurd hb (by unfold From;omega))).mono fun b _ hb=>(show w.heap.size<=b from Nat.le_trans (Nat.le_succ _) hb),(Hs3.out.kp kf (fun b hb e=>absurd hb (by unfold From;omega))).mono fun b _ hb=>(show w.heap.size<=b from Nat.le_trans (Nat.le_succ _) hb),(Hs4.out.kp kf (fun b hb e=>absurd hb (by unfold From;omega))).mono fun b _ hb=>(show w.heap.size<=b from Nat.le_trans (Nat.le_succ _) hb)⟩⟩
  simp [results,Tryz.results58,go_sem,a0,a1,a2,a3,a4,z1]
 ·have Hno:=Lib.hid hno
  clear hno
  go_wp2_with fail
  refine bodyPost_ret (v:=.tuple #[.agg #[.slice none 0 0,.int .i64 0,.slice none 0 0,.slice none 0 0,.slice none 0 0],.int .i64 2]) ?_ rfl ⟨((Hk.out.mono (S':=From w.heap.size) (fun _ _ h=>h.elim)).trans (show Kp (From w.heap.size) w1 _ from (by repeat (first | with_reducible exact Kp.refl _ _ | with_reducible refine Kp.alloc ?_ _ | with_reducible refine Kp.drew ?_ | with_reducible refine Kp.drewN ?_ _ | with_reducible refine Kp.setRow ?_ (from_le (by first | exact Nat.le_refl _ | omega)) _ | with_reducible refine Kp.setCell ?_ (Or.inl (from_le (by first | (dsimp only;omega) | omega | (simp;omega) | (simp;done)))) _)))).fresh,.inr ⟨Hno.out,rfl⟩⟩
  simp [results,Tryz.results58,go_sem,a0,a1,a2,a3,a4,z1]
end Go.Proofs.YthgbdoofchknhaaGreatDoor
end
section
namespace Go.Proofs.YthgbdoofchknhaaGreatDoor
open Go.RowKit
theorem ofInt_wrap (u:UInt64):IntKind.u64.wrap (i64of u)=(u.toNat:Int):=by rw [u64_ofInt,ofInt_i64of]
end Go.Proofs.YthgbdoofchknhaaGreatDoor
end
section
namespace Go.Proofs.YthgbdoofchknhaaGreatDoor
open Go.RowKit
end Go.Proofs.YthgbdoofchknhaaGreatDoor
end
section
namespace Go.Proofs.YthgbdoofchknhaaGreatDoor
open Go.RowKit
theorem i64of_eq (a b:UInt64):(i64of a=i64of b)=(a=b):=propext ⟨fun e=>by
 have h:=congrArg IntKind.u64.wrap e
 rw [ofInt_wrap,ofInt_wrap] at h
 exact UInt64.toNat_inj.1 (Int.ofNat.inj h),fun e=>by rw [e]⟩
theorem nat_eq (a b:UInt64):(((a.toNat:Nat):Int)=((b.toNat:Nat):Int))=(a=b):=propext ⟨fun e=>UInt64.toNat_inj.1 (Int.ofNat.inj e),fun e=>by rw [e]⟩
set_option maxRecDepth 100000 in
theorem eqIn_Pt (w:World) (d:Nat) (p0 q0 p1 q1 p2 q2 p3 q3 p4 q4:Int):(Op.equalIn (d+2) 107 (.agg #[.int .i64 p0,.int .i64 p1,.int .i64 p2,.int .i64 p3,.int .i64 p4]) (.agg #[.int .i64 q0,.int .i64 q1,.int .i64 q2,.int .i64 q3,.int .i64 q4])).run Tryz.prog w = .ok (decide (p0=q0/\p1=q1/\p2=q2/\p3=q3/\p4=q4)) w:=by
 go_simp
 by_cases h0:p0=q0
 rotate_left
 ·simp [h0]
 by_cases h1:p1=q1
 rotate_left
 ·simp [h1]
 by_cases h2:p2=q2
 rotate_left
 ·simp [h2]
 by_cases h3:p3=q3
 rotate_left
 ·simp [h3]
 by_cases h4:p4=q4
 rotate_left
 ·simp [h4]
 simp [h0,h1,h2,h3,h4]
set_option maxRecDepth 100000 in
theorem neq_Pt (w:World) (x y:Pt):(binOp .neq 107 (.agg #[.int .i64 (i64of x.kind),.int .i64 (i64of x.tenant),.int .i64 (i64of x.peer),.int .i64 (i64of x.at_),.int .i64 (i64of x.cost)]) (.agg #[.int .i64 (i64of y.kind),.int .i64 (i64of y.tenant),.int .i64 (i64of y.peer),.int .i64 (i64of y.at_),.int .i64 (i64of y.cost)])).run Tryz.prog w = .ok (.bool (!decide (x.words=y.words))) w:=by
 rw [run_neq_struct,show (10000:Nat)=9998+2 from rfl,eqIn_Pt]
 rw [Result.andThen_ok]
 simp only [i64of_eq,nat_eq,Pt.words,List.cons.injEq,and_true]
set_option maxRecDepth 100000 in
theorem eqIn_Wy (w:World) (d:Nat) (p0 q0 p1 q1 p2 q2:Int):(Op.equalIn (d+2) 98 (.agg #[.int .i64 p0,.int .i64 p1,.int .i64 p2]) (.agg #[.int .i64 q0,.int .i64 q1,.int .i64 q2])).run Tryz.prog w = .ok (decide (p0=q0/\p1=q1/\p2=q2)) w:=by
 go_simp
 by_cases h0:p0=q0
 rotate_left
 ·simp [h0]
 by_cases h1:p1=q1
 rotate_left
 ·simp [h1]
 by_cases h2:p2=q2
 rotate_left
 ·simp [h2]
 simp [h0,h1,h2]
set_option maxRecDepth 100000 in
theorem neq_Wy (w:World) (x y:Wy):(binOp .neq 98 (.agg #[.int .i64 (i64of x.fro),.int .i64 (i64of x.to),.int .i64 (i64of x.via)]) (.agg #[.int .i64 (i64of y.fro),.int .i64 (i64of y.to),.int .i64 (i64of y.via)])).run Tryz.prog w = .ok (.bool (!decide (x.words=y.words))) w:=by
 rw [run_neq_struct,show (10000:Nat)=9998+2 from rfl,eqIn_Wy]
 rw [Result.andThen_ok]
 simp only [i64of_eq,nat_eq,Wy.words,List.cons.injEq,and_true]
set_option maxRecDepth 100000 in
theorem eqIn_Rl (w:World) (d:Nat) (p0 q0 p1 q1 p2 q2 p3 q3 p4 q4 p5 q5 p6 q6 p7 q7 p8 q8 p9 q9 p10 q10 p11 q11:Int):(Op.equalIn (d+5) 116 (.agg #[.int .i64 p0,.int .u64 p1,.int .u64 p2,.int .u64 p3,.int .u64 p4,.int .i64 p5,.int .i64 p6,.int .i64 p7,.int .u64 p8,.int .u64 p9,.int .u64 p10,.int .u64 p11]) (.agg #[.int .i64 q0,.int .u64 q1,.int .u64 q2,.int .u64 q3,.int .u64 q4,.int .i64 q5,.int .i64 q6,.int .i64 q7,.int .u64 q8,.int .u64 q9,.int .u64 q10,.int .u64 q11])).run Tryz.prog w = .ok (decide (p0=q0/\p1=q1/\p2=q2/\p3=q3/\p4=q4/\p5=q5/\p6=q6/\p7=q7/\p8=q8/\p9=q9/\p10=q10/\p11=q11)) w:=by
 go_simp
 by_cases h0:p0=q0
 rotate_left
 ·simp [h0]
 by_cases h1:p1=q1
 rotate_left
 ·simp [h1]
 by_cases h2:p2=q2
 rotate_left
 ·simp [h2]
 by_cases h3:p3=q3
 rotate_left
 ·simp [h3]
 by_cases h4:p4=q4
 rotate_left
 ·simp [h4]
 by_cases h5:p5=q5
 rotate_left
 ·simp [h5]
 by_cases h6:p6=q6
 rotate_left
 ·simp [h6]
 by_cases h7:p7=q7
 rotate_left
 ·simp [h7]
 by_cases h8:p8=q8
 rotate_left
 ·simp [h8]
 by_cases h9:p9=q9
 rotate_left
 ·simp [h9]
 by_cases h10:p10=q10
 rotate_left
 ·simp [h10]
 by_cases h11:p11=q11
 rotate_left
 ·simp [h11]
 simp [h0,h1,h2,h3,h4,h5,h6,h7,h8,h9,h10,h11]
set_option maxRecDepth 100000 in
theorem neq_Rl (w:World) (x y:Rl):(binOp .neq 116 (.agg #[.int .i64 (i64of x.prio),.int .u64 x.mat.value.hi.toNat,.int .u64 x.mat.value.lo.toNat,.int .u64 x.mat.care.hi.toNat,.int .u64 x.mat.care.lo.toNat,.int .i64 (i64of x.act.kind),.int .i64 (i64of x.act.port),.int .i64 (i64of x.act.table),.int .u64 x.act.set.value.hi.toNat,.int .u64 x.act.set.value.lo.toNat,.int .u64 x.act.set.care.hi.toNat,.int .u64 x.act.set.care.lo.toNat]) (.agg #[.int .i64 (i64of y.prio),.int .u64 y.mat.value.hi.toNat,.int .u64 y.mat.value.lo.toNat,.int .u64 y.mat.care.hi.toNat,.int .u64 y.mat.care.lo.toNat,.int .i64 (i64of y.act.kind),.int .i64 (i64of y.act.port),.int .i64 (i64of y.act.table),.int .u64 y.act.set.value.hi.toNat,.int .u64 y.act.set.value.lo.toNat,.int .u64 y.act.set.care.hi.toNat,.int .u64 y.act.set.care.lo.toNat])).run Tryz.prog w = .ok (.bool (!decide (x.words=y.words))) w:=by
 rw [run_neq_struct,show (10000:Nat)=9995+5 from rfl,eqIn_Rl]
 rw [Result.andThen_ok]
 simp only [i64of_eq,nat_eq,Rl.words,List.cons.injEq,and_true]
theorem part_int (w:World) (xs:Array Value) (o:Nat) (v:Value) (hx:xs[o]?=some v):(part 3 xs o).run Tryz.prog w = .ok v w:=by
 unfold part
 simp only [Sem.run_bind,Sem.run_ite,Tryz.isAgg3,Result.andThen_ok,Bool.false_eq_true,if_false,hx,Sem.run_pure]
theorem eqIn_Pr (w:World) (d:Nat) (p0 q0 p1 q1:Int):(Op.equalIn (d+2) 96 (.agg #[.int .i64 p0,.int .i64 p1]) (.agg #[.int .i64 q0,.int .i64 q1])).run Tryz.prog w = .ok (decide (p0=q0/\p1=q1)) w:=by
 have hE:∀a b:Int,(Op.equalIn (d+1) 3 (.int .i64 a) (.int .i64 b)).run Tryz.prog w = .ok (a == b) w:=fun a b=>run_equalIn_int w d 3 .i64 .i64 a b Tryz.underlying3
 rw [show d+2=(d+1)+1 from rfl]
 generalize hg:d+1=e
 rw [hg] at hE
 clear hg
 rw [Op.equalIn]
 have hp0:(part 3 #[.int .i64 p0,.int .i64 p1] 0).run Tryz.prog w = .ok (.int .i64 p0) w:=part_int w _ _ _ rfl
 have hp1:(part 3 #[.int .i64 p0,.int .i64 p1] 1).run Tryz.prog w = .ok (.int .i64 p1) w:=part_int w _ _ _ rfl
 have hq0:(part 3 #[.int .i64 q0,.int .i64 q1] 0).run Tryz.prog w = .ok (.int .i64 q0) w:=part_int w _ _ _ rfl
 have hq1:(part 3 #[.int .i64 q0,.int .i64 q1] 1).run Tryz.prog w = .ok (.int .i64 q1) w:=part_int w _ _ _ rfl
 simp only [Sem.run_bind,run_underlying Tryz.underlying96,Result.andThen_ok,Tryz.sizeOf3,Std.Legacy.Range.forIn_eq_forIn_range',Std.Legacy.Range.size,List.range',List.forIn_cons,List.forIn_nil,Nat.zero_mul,Nat.zero_add,Nat.one_mul,hp0,hp1,hq0,hq1,hE,Sem.run_ite,Sem.run_pure]
 by_cases h0:p0=q0
 ·by_cases h1:p1=q1
  ·subst h0 h1
   simp [hp1,hE]
  ·subst h0
   simp [hp1,hq1,hE,h1]
 ·simp [h0]
theorem neq_Pr (w:World) (x y:Pr):(binOp .neq 96 (.agg #[.int .i64 (i64of x.a),.int .i64 (i64of x.b)]) (.agg #[.int .i64 (i64of y.a),.int .i64 (i64of y.b)])).run Tryz.prog w = .ok (.bool (!decide (x.words=y.words))) w:=by
 rw [run_neq_struct,show (10000:Nat)=9998+2 from rfl,eqIn_Pr]
 rw [Result.andThen_ok]
 simp only [i64of_eq,nat_eq,Pr.words,List.cons.injEq,and_true]
theorem words_Pt {x y:Pt}:x.words=y.words↔x=y:=by
 obtain ⟨⟩:=x
 obtain ⟨⟩:=y
 simp [Pt.words]
theorem words_Wy {x y:Wy}:x.words=y.words↔x=y:=by
 obtain ⟨⟩:=x
 obtain ⟨⟩:=y
 simp [Wy.words]
theorem words_Pr {x y:Pr}:x.words=y.words↔x=y:=by
 obtain ⟨⟩:=x
 obtain ⟨⟩:=y
 simp [Pr.words]
theorem words_Rl {x y:Rl}:x.words=y.words↔x=y:=by
 obtain ⟨a,⟨⟨_,_⟩,⟨_,_⟩⟩,⟨b,c,d,⟨⟨_,_⟩,⟨_,_⟩⟩⟩⟩:=x
 obtain ⟨a',⟨⟨_,_⟩,⟨_,_⟩⟩,⟨b',c',d',⟨⟨_,_⟩,⟨_,_⟩⟩⟩⟩:=y
 simp [Rl.words,and_assoc]
def SameOut (w w':World) (p:Prop) (e:Ending):Prop:=∃b:Bool,e = .returned (.bool b)/\(b=true↔p)/\Kp No w w'
theorem same_step {α:Type} {l m:List α} {k:Nat} {x y:α} (h:∀i<k,l[i]?=m[i]?) (hx:l[k]?=some x) (hy:m[k]?=some y) (e:x=y):∀i<k+1,l[i]?=m[i]?:=by
 intro i hi
 by_cases hk:i=k
 ·rw [hk,hx,hy,e]
 ·exact h i (by omega)
theorem same_all {α:Type} {l m:List α} {k:Nat} (h:∀i<k,l[i]?=m[i]?) (hl:l.length<=k) (hm:m.length<=k):l=m:=by
 apply List.ext_getElem?
 intro i
 by_cases hi:i<k
 ·exact h i hi
 ·rw [List.getElem?_eq_none (by omega),List.getElem?_eq_none (by omega)]
theorem diff_at {α:Type} {l m:List α} {k:Nat} {x y:α} (hx:l[k]?=some x) (hy:m[k]?=some y) (e:¬x=y):¬l=m:=by
 intro h
 rw [h,hy] at hx
 exact e (Option.some.inj hx).symm
theorem diff_len {α:Type} {l m:List α} (e:¬l.length=m.length):¬l=m:=fun h=>e (by rw [h])
end Go.Proofs.YthgbdoofchknhaaGreatDoor
end
section
namespace Go.Proofs.YthgbdoofchknhaaGreatDoor
open Go.RowKit
set_option maxRecDepth 100000 in
theorem ref_Ports_r11 (w:World) (q q2 n ca cb k j ba oa bb ob b3 o3 b4 o4 nx cx cy:Nat) (p0 p1 p2 p3 p4 r0 r1 r2 r3 r4:Int) (b:Bool) (hkn:(k:Int)<(n:Int)) (hjn:(j:Int)<(nx:Int)) (ea:w.cell? ⟨ba,oa+k,none⟩=some (.slice (some ⟨b3,o3,none⟩) nx cx)) (eb:w.cell? ⟨bb,ob+k,none⟩=some (.slice (some ⟨b4,o4,none⟩) nx cy)) (a0:w.cell? ⟨q,0,none⟩=some (.slice (some ⟨ba,oa,none⟩) n ca)) (b0:w.cell? ⟨q2,0,none⟩=some (.slice (some ⟨bb,ob,none⟩) n cb)) (e0:w.cell? ⟨b3,o3+j*5,none⟩=some (.int .i64 p0)) (e1:w.cell? ⟨b3,o3+j*5+1,none⟩=some (.int .i64 p1)) (e2:w.cell? ⟨b3,o3+j*5+2,none⟩=some (.int .i64 p2)) (e3:w.cell? ⟨b3,o3+j*5+3,none⟩=some (.int .i64 p3)) (e4:w.cell? ⟨b3,o3+j*5+4,none⟩=some (.int .i64 p4)) (f0:w.cell? ⟨b4,o4+j*5,none⟩=some (.int .i64 r0)) (f1:w.cell? ⟨b4,o4+j*5+1,none⟩=some (.int .i64 r1)) (f2:w.cell? ⟨b4,o4+j*5+2,none⟩=some (.int .i64 r2)) (f3:w.cell? ⟨b4,o4+j*5+3,none⟩=some (.int .i64 r3)) (f4:w.cell? ⟨b4,o4+j*5+4,none⟩=some (.int .i64 r4)) (hneq:∀w:World,(binOp .neq 107 (.agg #[.int .i64 p0,.int .i64 p1,.int .i64 p2,.int .i64 p3,.int .i64 p4]) (.agg #[.int .i64 r0,.int .i64 r1,.int .i64 r2,.int .i64 r3,.int .i64 r4])).run Tryz.prog w = .ok (.bool b) w) {K:Act->World->Prop} {Q':Exit->Act->World->Prop} {u0 u1 u4 u7 u8 u9 u10 u11 u12 u13 u14 u15 u16 u17 u18 u19 u20 u21 u22 u23 u24 u25 u26 u27 u28 u29 u30 u31 u32 u33 u34 u35 u36 u37 u38 u39 u40 u41 u42 u43 u44 u45 u46 u47 u48 u49 u50 u51 u52 u53 u54 u55 u56 u57 u58 u59 u60:Value}
  (HK:Hid (∀(v44 v45 v46 v47 v48 v49 v50 v51 v52 v53 v54 v55 v56 v57 v58 v59 o:Value) (wr:World),(o = .bool b/\∃n,wr=w.drewN n)->K { tmps:=#[u0,u1,.pointer (some ⟨q,0,none⟩),.pointer (some ⟨q2,0,none⟩),u4,.int .i64 k,.int .i64 j,u7,u8,u9,u10,u11,u12,u13,u14,u15,u16,u17,u18,u19,u20,u21,u22,u23,u24,u25,u26,u27,u28,u29,u30,u31,u32,u33,u34,u35,u36,u37,u38,u39,u40,u41,u42,u43,v44,v45,v46,v47,v48,v49,v50,v51,v52,v53,v54,v55,v56,v57,v58,v59,o],defers:=[] } wr)) :
  ∀cc,secRegion 11 (Tryz.f43.body.getD .skip)=cc->cc.wp Tryz.prog (Exit.then K Q') { tmps:=#[u0,u1,.pointer (some ⟨q,0,none⟩),.pointer (some ⟨q2,0,none⟩),u4,.int .i64 k,.int .i64 j,u7,u8,u9,u10,u11,u12,u13,u14,u15,u16,u17,u18,u19,u20,u21,u22,u23,u24,u25,u26,u27,u28,u29,u30,u31,u32,u33,u34,u35,u36,u37,u38,u39,u40,u41,u42,u43,u44,u45,u46,u47,u48,u49,u50,u51,u52,u53,u54,u55,u56,u57,u58,u59,u60],defers:=[] } w:=by
 rintro cc rfl
 show Code.wp _ (Code.region 11 _ _) _ _ _
 go_quiet (fail)
 refine HK.out _ _ _ _ _ _ _ _ _ _ _ _ _ _ _ _ _ _ ?_
 exact ⟨rfl,_,rfl⟩
set_option maxRecDepth 100000 in
set_option maxHeartbeats 4000000 in
theorem ref_Ports (w : World) (F G : Nat -> Prop) (xs ys : List (List Pt)) (va vb : Value) (ha : SliceAt ptR.slice w F xs va) (hb : SliceAt ptR.slice w G ys vb) :
    Calls Tryz.prog 43 #[.agg #[va],.agg #[vb]] w fun e w'=>SameOut w w' (xs=ys) e:=by
  obtain ⟨A,n,ca,rfl,Hn,hca1,hca2⟩:=ha.form'
  obtain ⟨B,m,cb,rfl,Hm,hcb1,hcb2⟩:=hb.form'
  obtain ⟨wx,hwx⟩:∃wx,wx=(w.alloc (.cells #[.slice A n ca] 27)).alloc (.cells #[.slice B m cb] 27):=⟨_,rfl⟩
  have hk0:Kp No w wx:=by rw [hwx];exact ((Kp.refl No w).alloc _).alloc _
  obtain ⟨q,hq⟩:∃q,q=w.heap.size:=⟨_,rfl⟩
  have r1:wx.heap[q]?=some (.cells #[.slice A n ca] 27 (0,0)):=by rw [hwx,hq];exact ((Kp.refl No _).alloc _).heap (heap_alloc_new w _) id
  have r2:wx.heap[q+1]?=some (.cells #[.slice B m cb] 27 (0,0)):=by
    have:=heap_alloc_new (w.alloc (.cells #[.slice A n ca] 27)) (.cells #[.slice B m cb] 27)
    rw [alloc_size,<- hq] at this
    rw [hwx];exact this
  have a0:wx.cell? ⟨q,0,none⟩=some (.slice A n ca):=cell_of_row _ _ 0 _ _ _ r1
  have af:∀o,wx.frozen? ⟨q,o,none⟩=false:=fun o=>frz_of_row _ _ o _ _ r1
  have b0:wx.cell? ⟨q+1,0,none⟩=some (.slice B m cb):=cell_of_row _ _ 0 _ _ _ r2
  have bf:∀o,wx.frozen? ⟨q+1,o,none⟩=false:=fun o=>frz_of_row _ _ o _ _ r2
  have Ha:=Lib.hid (ha.kp hk0 (fun _ _=>id))
  have Hb:=Lib.hid (hb.kp hk0 (fun _ _=>id))
  have Hk0:=Lib.hid hk0
  have Hwx:=Lib.hid hwx
  have Hq:=Lib.hid hq
  clear ha hb hk0 hwx hq r1 r2 af bf
  go_enter Tryz.func43,Tryz.ntmps43
  go_upto_region 1 with (fail)
  rw [<- Hwx.out,<- Hq.out]
  by_cases hnm:n=m
  rotate_left
  · have q1:¬(n:Int)=(m:Int):=by omega
    have Hne:=Lib.hid (diff_len (fun h=>hnm (Hn.out.trans (h.trans Hm.out.symm))))
    clear hnm
    go_wp2_with fail
    go_ret
    exact ⟨false,rfl,⟨(fun h=>by cases h),fun h=>(Hne.out h).elim⟩,Hk0.out⟩
  subst hnm
  go_wp2_with fail
  go_loopw [5] (fun i wr=>∃k:Nat,k<=n/\i = .int .i64 k/\(∀i<k,xs[i]?=ys[i]?)/\Kp No wx wr) (fun i _=>n - (intOf i).toNat)
  case atStart=>exact ⟨0,Nat.zero_le _,rfl,fun i h=>absurd h (Nat.not_lt_zero _),Kp.refl No _⟩
  case round =>
    obtain ⟨k,hk,rfl,hsm,hkr⟩:=hrel
    have q3:(0:Int)<=(k:Int):=by omega
    have Hsm:=Lib.hid hsm
    have HkW:=Lib.hid hkr
    have a0:=hkr.cell a0 id
    have b0:=hkr.cell b0 id
    by_cases hlt:k<n
    · have q1:(k:Int)<(n:Int):=by omega
      obtain ⟨x,hx⟩:∃x,xs[k]?=some x:=⟨_,List.getElem?_eq_getElem (by rw [<- Hn.out];exact hlt)⟩
      obtain ⟨y,hy⟩:∃y,ys[k]?=some y:=⟨_,List.getElem?_eq_getElem (by rw [<- Hm.out];exact hlt)⟩
      obtain ⟨ba,oa,ua,rfl,hFa,ea,hxa⟩:=(Ha.out.kp hkr (fun _ _=>id)).get_slice hx
      obtain ⟨bb,ob,ub,rfl,hFb,eb,hyb⟩:=(Hb.out.kp hkr (fun _ _=>id)).get_slice hy
      obtain ⟨Ax,nx,cx,rfl,Hnx,hcx1,hcx2⟩:=hxa.form'
      obtain ⟨By,ny,cy,rfl,Hny,hcy1,hcy2⟩:=hyb.form'
      have Hxa:=Lib.hid hxa
      have Hyb:=Lib.hid hyb
      have Hx:=Lib.hid hx
      have Hy:=Lib.hid hy
      have Hlt:=Lib.hid hlt
      clear hxa hyb hx hy hlt hsm hkr
      by_cases hxy:nx=ny
      rotate_left
      · have q4:¬(nx:Int)=(ny:Int):=by omega
        have Hne:=Lib.hid (diff_at Hx.out Hy.out (diff_len (fun h=>hxy (Hnx.out.trans (h.trans Hny.out.symm)))))
        clear hxy
        go_upto_region 6 with (fail)
        go_quiet (fail)
        go_wp2_with fail
        go_ret
        exact ⟨false,rfl,⟨(fun h=>by cases h),fun h=>(Hne.out h).elim⟩,(Hk0.out.trans HkW.out).drewN _⟩
      subst hxy
      go_upto_region 6 with (fail)
      go_quiet (fail)
      obtain ⟨wq,hwq⟩:∃wq,wq=wr.drewN nq:=⟨_,rfl⟩
      rw [<- hwq]
      have hkq:Kp No wr wq:=by rw [hwq];exact (Kp.refl No wr).drewN _
      have ea:=hkq.cell ea id
      have eb:=hkq.cell eb id
      have a0:=hkq.cell a0 id
      have b0:=hkq.cell b0 id
      have Hxa:=Lib.hid (Hxa.out.kp hkq (fun _ _=>id))
      have Hyb:=Lib.hid (Hyb.out.kp hkq (fun _ _=>id))
      have HkW:=Lib.hid (HkW.out.trans hkq)
      clear hkq hwq
      go_wp2_with fail
      go_loopw [6] (fun i wr=>∃j:Nat,j<=nx/\i = .int .i64 j/\(∀i<j,x[i]?=y[i]?)/\Kp No wq wr) (fun i _=>nx - (intOf i).toNat)
      case atStart=>exact ⟨0,Nat.zero_le _,rfl,fun i h=>absurd h (Nat.not_lt_zero _),Kp.refl No _⟩
      case round =>
        obtain ⟨j,hj,rfl,hsm,hkr⟩:=hrel
        have q5:(0:Int)<=(j:Int):=by omega
        have Hsm2:=Lib.hid hsm
        have HkW2:=Lib.hid hkr
        have ea:=hkr.cell ea id
        have eb:=hkr.cell eb id
        have a0:=hkr.cell a0 id
        have b0:=hkr.cell b0 id
        by_cases hjl:j<nx
        · have q6:(j:Int)<(nx:Int):=by omega
          obtain ⟨p,hp⟩:∃p,x[j]?=some p:=⟨_,List.getElem?_eq_getElem (by rw [<- Hnx.out];exact hjl)⟩
          obtain ⟨r,hr⟩:∃r,y[j]?=some r:=⟨_,List.getElem?_eq_getElem (by rw [<- Hny.out];exact hjl)⟩
          obtain ⟨b3,o3,rfl,_,e0,e1,e2,e3,e4⟩:=(Hxa.out.kp hkr (fun _ _=>id)).get_Pt hp
          obtain ⟨b4,o4,rfl,_,f0,f1,f2,f3,f4⟩:=(Hyb.out.kp hkr (fun _ _=>id)).get_Pt hr
          have Hp:=Lib.hid hp
          have Hr:=Lib.hid hr
          have Hjl:=Lib.hid hjl
          have hneq:=fun w:World=>neq_Pt w p r
          generalize i64of p.kind=p0 at e0 hneq
          generalize i64of r.kind=r0 at f0 hneq
          generalize i64of p.tenant=p1 at e1 hneq
          generalize i64of r.tenant=r1 at f1 hneq
          generalize i64of p.peer=p2 at e2 hneq
          generalize i64of r.peer=r2 at f2 hneq
          generalize i64of p.at_=p3 at e3 hneq
          generalize i64of r.at_=r3 at f3 hneq
          generalize i64of p.cost=p4 at e4 hneq
          generalize i64of r.cost=r4 at f4 hneq
          clear hp hr hjl hsm hkr
          by_cases hpr:p.words=r.words
          · have Heq:=Lib.hid (words_Pt.1 hpr)
            simp only [decide_eq_true hpr,Bool.not_true] at hneq
            clear hpr
            go_upto_region 11 with (fail)
            refine ref_Ports_r11 _ q (q+1) n ca cb k j ba oa bb ob b3 o3 b4 o4 nx cx cy p0 p1 p2 p3 p4 r0 r1 r2 r3 r4 _ q1 q6 ea eb a0 b0 e0 e1 e2 e3 e4 f0 f1 f2 f3 f4 hneq (Lib.hid ?_) _ rfl
            intro v44 v45 v46 v47 v48 v49 v50 v51 v52 v53 v54 v55 v56 v57 v58 v59 o wr hrel
            obtain ⟨rfl,nq,rfl⟩:=hrel
            go_wp2_with fail
            go_roundw
            case rel=>exact ⟨j+1,by have:=Hjl.out;omega,by go_num,same_step Hsm2.out Hp.out Hr.out Heq.out,HkW2.out.drewN _⟩
            case measure=>simp [intOf];have:=Hjl.out;omega
          · have Hne:=Lib.hid (diff_at Hx.out Hy.out (diff_at Hp.out Hr.out (fun h=>hpr (words_Pt.2 h))))
            simp only [decide_eq_false hpr,Bool.not_false] at hneq
            clear hpr
            go_upto_region 11 with (fail)
            refine ref_Ports_r11 _ q (q+1) n ca cb k j ba oa bb ob b3 o3 b4 o4 nx cx cy p0 p1 p2 p3 p4 r0 r1 r2 r3 r4 _ q1 q6 ea eb a0 b0 e0 e1 e2 e3 e4 f0 f1 f2 f3 f4 hneq (Lib.hid ?_) _ rfl
            intro v44 v45 v46 v47 v48 v49 v50 v51 v52 v53 v54 v55 v56 v57 v58 v59 o wr hrel
            obtain ⟨rfl,nq,rfl⟩:=hrel
            go_wp2_with fail
            go_ret
            exact ⟨false,rfl,⟨(fun h=>by cases h),fun h=>(Hne.out h).elim⟩,(Hk0.out.trans (HkW.out.trans HkW2.out)).drewN _⟩
        · have q6:¬(j:Int)<(nx:Int):=by omega
          have Hxy:=Lib.hid (same_all Hsm2.out (by rw [<- Hnx.out];omega) (by rw [<- Hny.out];omega))
          clear hjl hsm hkr
          go_wp2_with fail
          go_roundw
          case rel=>exact ⟨k+1,by have:=Hlt.out;omega,by go_num,same_step Hsm.out Hx.out Hy.out Hxy.out,HkW.out.trans HkW2.out⟩
          case measure=>simp [intOf];have:=Hlt.out;omega
    · have q1:¬(k:Int)<(n:Int):=by omega
      have Hxy:=Lib.hid (same_all Hsm.out (by rw [<- Hn.out];omega) (by rw [<- Hm.out];omega))
      clear hlt hsm hkr
      go_wp2_with fail
      go_ret
      exact ⟨true,rfl,⟨fun _=>Hxy.out,fun _=>rfl⟩,Hk0.out.trans HkW.out⟩
set_option maxRecDepth 100000 in
theorem ref_Rules_r11 (w:World) (n ca cb k j ba oa bb ob b3 o3 b4 o4 nx cx cy:Nat) (p0 p1 p2 p3 p4 p5 p6 p7 p8 p9 p10 p11 r0 r1 r2 r3 r4 r5 r6 r7 r8 r9 r10 r11:Int) (b:Bool) (hkn:(k:Int)<(n:Int)) (hjn:(j:Int)<(nx:Int)) (ea:w.cell? ⟨ba,oa+k,none⟩=some (.slice (some ⟨b3,o3,none⟩) nx cx)) (eb:w.cell? ⟨bb,ob+k,none⟩=some (.slice (some ⟨b4,o4,none⟩) nx cy)) (e0:w.cell? ⟨b3,o3+j*12,none⟩=some (.int .i64 p0)) (e1:w.cell? ⟨b3,o3+j*12+1,none⟩=some (.int .u64 p1)) (e2:w.cell? ⟨b3,o3+j*12+2,none⟩=some (.int .u64 p2)) (e3:w.cell? ⟨b3,o3+j*12+3,none⟩=some (.int .u64 p3)) (e4:w.cell? ⟨b3,o3+j*12+4,none⟩=some (.int .u64 p4)) (e5:w.cell? ⟨b3,o3+j*12+5,none⟩=some (.int .i64 p5)) (e6:w.cell? ⟨b3,o3+j*12+6,none⟩=some (.int .i64 p6)) (e7:w.cell? ⟨b3,o3+j*12+7,none⟩=some (.int .i64 p7)) (e8:w.cell? ⟨b3,o3+j*12+8,none⟩=some (.int .u64 p8)) (e9:w.cell? ⟨b3,o3+j*12+9,none⟩=some (.int .u64 p9)) (e10:w.cell? ⟨b3,o3+j*12+10,none⟩=some (.int .u64 p10)) (e11:w.cell? ⟨b3,o3+j*12+11,none⟩=some (.int .u64 p11)) (f0:w.cell? ⟨b4,o4+j*12,none⟩=some (.int .i64 r0)) (f1:w.cell? ⟨b4,o4+j*12+1,none⟩=some (.int .u64 r1)) (f2:w.cell? ⟨b4,o4+j*12+2,none⟩=some (.int .u64 r2)) (f3:w.cell? ⟨b4,o4+j*12+3,none⟩=some (.int .u64 r3)) (f4:w.cell? ⟨b4,o4+j*12+4,none⟩=some (.int .u64 r4)) (f5:w.cell? ⟨b4,o4+j*12+5,none⟩=some (.int .i64 r5)) (f6:w.cell? ⟨b4,o4+j*12+6,none⟩=some (.int .i64 r6)) (f7:w.cell? ⟨b4,o4+j*12+7,none⟩=some (.int .i64 r7)) (f8:w.cell? ⟨b4,o4+j*12+8,none⟩=some (.int .u64 r8)) (f9:w.cell? ⟨b4,o4+j*12+9,none⟩=some (.int .u64 r9)) (f10:w.cell? ⟨b4,o4+j*12+10,none⟩=some (.int .u64 r10)) (f11:w.cell? ⟨b4,o4+j*12+11,none⟩=some (.int .u64 r11)) (hneq:∀w:World,(binOp .neq 116 (.agg #[.int .i64 p0,.int .u64 p1,.int .u64 p2,.int .u64 p3,.int .u64 p4,.int .i64 p5,.int .i64 p6,.int .i64 p7,.int .u64 p8,.int .u64 p9,.int .u64 p10,.int .u64 p11]) (.agg #[.int .i64 r0,.int .u64 r1,.int .u64 r2,.int .u64 r3,.int .u64 r4,.int .i64 r5,.int .i64 r6,.int .i64 r7,.int .u64 r8,.int .u64 r9,.int .u64 r10,.int .u64 r11])).run Tryz.prog w = .ok (.bool b) w) {K:Act->World->Prop} {Q':Exit->Act->World->Prop} {u2 u3 u4 u7 u8 u9 u10 u11 u12 u13 u14 u15 u16 u17 u18 u19 u20 u21 u22 u23 u24 u25 u26 u27 u28 u29 u30 u31 u32 u33 u34 u35 u36 u37 u38 u39 u40 u41 u42 u43 u44 u45 u46 u47 u48 u49 u50 u51 u52:Value}
  (HK:Hid (∀(v38 v39 v40 v41 v42 v43 v44 v45 v46 v47 v48 v49 v50 v51 o:Value) (wr:World),(o = .bool b/\∃n,wr=w.drewN n)->K { tmps:=#[.slice (some ⟨ba,oa,none⟩) n ca,.slice (some ⟨bb,ob,none⟩) n cb,u2,u3,u4,.int .i64 k,.int .i64 j,u7,u8,u9,u10,u11,u12,u13,u14,u15,u16,u17,u18,u19,u20,u21,u22,u23,u24,u25,u26,u27,u28,u29,u30,u31,u32,u33,u34,u35,u36,u37,v38,v39,v40,v41,v42,v43,v44,v45,v46,v47,v48,v49,v50,v51,o],defers:=[] } wr)) :
  ∀cc,secRegion 11 (Tryz.f44.body.getD .skip)=cc->cc.wp Tryz.prog (Exit.then K Q') { tmps:=#[.slice (some ⟨ba,oa,none⟩) n ca,.slice (some ⟨bb,ob,none⟩) n cb,u2,u3,u4,.int .i64 k,.int .i64 j,u7,u8,u9,u10,u11,u12,u13,u14,u15,u16,u17,u18,u19,u20,u21,u22,u23,u24,u25,u26,u27,u28,u29,u30,u31,u32,u33,u34,u35,u36,u37,u38,u39,u40,u41,u42,u43,u44,u45,u46,u47,u48,u49,u50,u51,u52],defers:=[] } w:=by
 rintro cc rfl
 show Code.wp _ (Code.region 11 _ _) _ _ _
 go_quiet (fail)
 refine HK.out _ _ _ _ _ _ _ _ _ _ _ _ _ _ _ _ ?_
 exact ⟨rfl,_,rfl⟩
set_option maxRecDepth 100000 in
set_option maxHeartbeats 4000000 in
theorem ref_Rules (w : World) (F G : Nat -> Prop) (xs ys : List (List Rl)) (va vb : Value) (ha : SliceAt rlR.slice w F xs va) (hb : SliceAt rlR.slice w G ys vb) :
    Calls Tryz.prog 44 #[va,vb] w fun e w'=>SameOut w w' (xs=ys) e:=by
  obtain ⟨A,n,ca,rfl,Hn,hca1,hca2⟩:=ha.form'
  obtain ⟨B,m,cb,rfl,Hm,hcb1,hcb2⟩:=hb.form'
  have Ha:=Lib.hid ha
  have Hb:=Lib.hid hb
  have Hk0:=Lib.hid (Kp.refl No w)
  clear ha hb
  go_enter Tryz.func44,Tryz.ntmps44
  by_cases hnm:n=m
  rotate_left
  · have q1:¬(n:Int)=(m:Int):=by omega
    have Hne:=Lib.hid (diff_len (fun h=>hnm (Hn.out.trans (h.trans Hm.out.symm))))
    clear hnm
    go_wp2_with fail
    go_ret
    exact ⟨false,rfl,⟨(fun h=>by cases h),fun h=>(Hne.out h).elim⟩,Hk0.out⟩
  subst hnm
  go_wp2_with fail
  go_loopw [5] (fun i wr=>∃k:Nat,k<=n/\i = .int .i64 k/\(∀i<k,xs[i]?=ys[i]?)/\Kp No w wr) (fun i _=>n - (intOf i).toNat)
  case atStart=>exact ⟨0,Nat.zero_le _,rfl,fun i h=>absurd h (Nat.not_lt_zero _),Kp.refl No _⟩
  case round =>
    obtain ⟨k,hk,rfl,hsm,hkr⟩:=hrel
    have q3:(0:Int)<=(k:Int):=by omega
    have Hsm:=Lib.hid hsm
    have HkW:=Lib.hid hkr
    by_cases hlt:k<n
    · have q1:(k:Int)<(n:Int):=by omega
      obtain ⟨x,hx⟩:∃x,xs[k]?=some x:=⟨_,List.getElem?_eq_getElem (by rw [<- Hn.out];exact hlt)⟩
      obtain ⟨y,hy⟩:∃y,ys[k]?=some y:=⟨_,List.getElem?_eq_getElem (by rw [<- Hm.out];exact hlt)⟩
      obtain ⟨ba,oa,ua,rfl,hFa,ea,hxa⟩:=(Ha.out.kp hkr (fun _ _=>id)).get_slice hx
      obtain ⟨bb,ob,ub,rfl,hFb,eb,hyb⟩:=(Hb.out.kp hkr (fun _ _=>id)).get_slice hy
      obtain ⟨Ax,nx,cx,rfl,Hnx,hcx1,hcx2⟩:=hxa.form'
      obtain ⟨By,ny,cy,rfl,Hny,hcy1,hcy2⟩:=hyb.form'
      have Hxa:=Lib.hid hxa
      have Hyb:=Lib.hid hyb
      have Hx:=Lib.hid hx
      have Hy:=Lib.hid hy
      have Hlt:=Lib.hid hlt
      clear hxa hyb hx hy hlt hsm hkr
      by_cases hxy:nx=ny
      rotate_left
      · have q4:¬(nx:Int)=(ny:Int):=by omega
        have Hne:=Lib.hid (diff_at Hx.out Hy.out (diff_len (fun h=>hxy (Hnx.out.trans (h.trans Hny.out.symm)))))
        clear hxy
        go_upto_region 6 with (fail)
        go_quiet (fail)
        go_wp2_with fail
        go_ret
        exact ⟨false,rfl,⟨(fun h=>by cases h),fun h=>(Hne.out h).elim⟩,(Hk0.out.trans HkW.out).drewN _⟩
      subst hxy
      go_upto_region 6 with (fail)
      go_quiet (fail)
      obtain ⟨wq,hwq⟩:∃wq,wq=wr.drewN nq:=⟨_,rfl⟩
      rw [<- hwq]
      have hkq:Kp No wr wq:=by rw [hwq];exact (Kp.refl No wr).drewN _
      have ea:=hkq.cell ea id
      have eb:=hkq.cell eb id
      have Hxa:=Lib.hid (Hxa.out.kp hkq (fun _ _=>id))
      have Hyb:=Lib.hid (Hyb.out.kp hkq (fun _ _=>id))
      have HkW:=Lib.hid (HkW.out.trans hkq)
      clear hkq hwq
      go_wp2_with fail
      go_loopw [6] (fun i wr=>∃j:Nat,j<=nx/\i = .int .i64 j/\(∀i<j,x[i]?=y[i]?)/\Kp No wq wr) (fun i _=>nx - (intOf i).toNat)
      case atStart=>exact ⟨0,Nat.zero_le _,rfl,fun i h=>absurd h (Nat.not_lt_zero _),Kp.refl No _⟩
      case round =>
        obtain ⟨j,hj,rfl,hsm,hkr⟩:=hrel
        have q5:(0:Int)<=(j:Int):=by omega
        have Hsm2:=Lib.hid hsm
        have HkW2:=Lib.hid hkr
        have ea:=hkr.cell ea id
        have eb:=hkr.cell eb id
        by_cases hjl:j<nx
        · have q6:(j:Int)<(nx:Int):=by omega
          obtain ⟨p,hp⟩:∃p,x[j]?=some p:=⟨_,List.getElem?_eq_getElem (by rw [<- Hnx.out];exact hjl)⟩
          obtain ⟨r,hr⟩:∃r,y[j]?=some r:=⟨_,List.getElem?_eq_getElem (by rw [<- Hny.out];exact hjl)⟩
          obtain ⟨b3,o3,rfl,_,e0,e1,e2,e3,e4,e5,e6,e7,e8,e9,e10,e11⟩:=(Hxa.out.kp hkr (fun _ _=>id)).get_Rl hp
          obtain ⟨b4,o4,rfl,_,f0,f1,f2,f3,f4,f5,f6,f7,f8,f9,f10,f11⟩:=(Hyb.out.kp hkr (fun _ _=>id)).get_Rl hr
          have Hp:=Lib.hid hp
          have Hr:=Lib.hid hr
          have Hjl:=Lib.hid hjl
          have hneq:=fun w:World=>neq_Rl w p r
          generalize i64of p.prio=p0 at e0 hneq
          generalize i64of r.prio=r0 at f0 hneq
          generalize ((p.mat.value.hi.toNat:Nat):Int)=p1 at e1 hneq
          generalize ((r.mat.value.hi.toNat:Nat):Int)=r1 at f1 hneq
          generalize ((p.mat.value.lo.toNat:Nat):Int)=p2 at e2 hneq
          generalize ((r.mat.value.lo.toNat:Nat):Int)=r2 at f2 hneq
          generalize ((p.mat.care.hi.toNat:Nat):Int)=p3 at e3 hneq
          generalize ((r.mat.care.hi.toNat:Nat):Int)=r3 at f3 hneq
          generalize ((p.mat.care.lo.toNat:Nat):Int)=p4 at e4 hneq
          generalize ((r.mat.care.lo.toNat:Nat):Int)=r4 at f4 hneq
          generalize i64of p.act.kind=p5 at e5 hneq
          generalize i64of r.act.kind=r5 at f5 hneq
          generalize i64of p.act.port=p6 at e6 hneq
          generalize i64of r.act.port=r6 at f6 hneq
          generalize i64of p.act.table=p7 at e7 hneq
          generalize i64of r.act.table=r7 at f7 hneq
          generalize ((p.act.set.value.hi.toNat:Nat):Int)=p8 at e8 hneq
          generalize ((r.act.set.value.hi.toNat:Nat):Int)=r8 at f8 hneq
          generalize ((p.act.set.value.lo.toNat:Nat):Int)=p9 at e9 hneq
          generalize ((r.act.set.value.lo.toNat:Nat):Int)=r9 at f9 hneq
          generalize ((p.act.set.care.hi.toNat:Nat):Int)=p10 at e10 hneq
          generalize ((r.act.set.care.hi.toNat:Nat):Int)=r10 at f10 hneq
          generalize ((p.act.set.care.lo.toNat:Nat):Int)=p11 at e11 hneq
          generalize ((r.act.set.care.lo.toNat:Nat):Int)=r11 at f11 hneq
          clear hp hr hjl hsm hkr
          by_cases hpr:p.words=r.words
          · have Heq:=Lib.hid (words_Rl.1 hpr)
            simp only [decide_eq_true hpr,Bool.not_true] at hneq
            clear hpr
            go_upto_region 11 with (fail)
            refine ref_Rules_r11 _ n ca cb k j ba oa bb ob b3 o3 b4 o4 nx cx cy p0 p1 p2 p3 p4 p5 p6 p7 p8 p9 p10 p11 r0 r1 r2 r3 r4 r5 r6 r7 r8 r9 r10 r11 _ q1 q6 ea eb e0 e1 e2 e3 e4 e5 e6 e7 e8 e9 e10 e11 f0 f1 f2 f3 f4 f5 f6 f7 f8 f9 f10 f11 hneq (Lib.hid ?_) _ rfl
            intro v38 v39 v40 v41 v42 v43 v44 v45 v46 v47 v48 v49 v50 v51 o wr hrel
            obtain ⟨rfl,nq,rfl⟩:=hrel
            go_wp2_with fail
            go_roundw
            case rel=>exact ⟨j+1,by have:=Hjl.out;omega,by go_num,same_step Hsm2.out Hp.out Hr.out Heq.out,HkW2.out.drewN _⟩
            case measure=>simp [intOf];have:=Hjl.out;omega
          · have Hne:=Lib.hid (diff_at Hx.out Hy.out (diff_at Hp.out Hr.out (fun h=>hpr (words_Rl.2 h))))
            simp only [decide_eq_false hpr,Bool.not_false] at hneq
            clear hpr
            go_upto_region 11 with (fail)
            refine ref_Rules_r11 _ n ca cb k j ba oa bb ob b3 o3 b4 o4 nx cx cy p0 p1 p2 p3 p4 p5 p6 p7 p8 p9 p10 p11 r0 r1 r2 r3 r4 r5 r6 r7 r8 r9 r10 r11 _ q1 q6 ea eb e0 e1 e2 e3 e4 e5 e6 e7 e8 e9 e10 e11 f0 f1 f2 f3 f4 f5 f6 f7 f8 f9 f10 f11 hneq (Lib.hid ?_) _ rfl
            intro v38 v39 v40 v41 v42 v43 v44 v45 v46 v47 v48 v49 v50 v51 o wr hrel
            obtain ⟨rfl,nq,rfl⟩:=hrel
            go_wp2_with fail
            go_ret
            exact ⟨false,rfl,⟨(fun h=>by cases h),fun h=>(Hne.out h).elim⟩,(Hk0.out.trans (HkW.out.trans HkW2.out)).drewN _⟩
        · have q6:¬(j:Int)<(nx:Int):=by omega
          have Hxy:=Lib.hid (same_all Hsm2.out (by rw [<- Hnx.out];omega) (by rw [<- Hny.out];omega))
          clear hjl hsm hkr
          go_wp2_with fail
          go_roundw
          case rel=>exact ⟨k+1,by have:=Hlt.out;omega,by go_num,same_step Hsm.out Hx.out Hy.out Hxy.out,HkW.out.trans HkW2.out⟩
          case measure=>simp [intOf];have:=Hlt.out;omega
    · have q1:¬(k:Int)<(n:Int):=by omega
      have Hxy:=Lib.hid (same_all Hsm.out (by rw [<- Hn.out];omega) (by rw [<- Hm.out];omega))
      clear hlt hsm hkr
      go_wp2_with fail
      go_ret
      exact ⟨true,rfl,⟨fun _=>Hxy.out,fun _=>rfl⟩,Hk0.out.trans HkW.out⟩
end Go.Proofs.YthgbdoofchknhaaGreatDoor
end
