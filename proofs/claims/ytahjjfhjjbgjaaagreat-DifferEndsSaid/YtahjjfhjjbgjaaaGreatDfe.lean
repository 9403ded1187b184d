/- Contracts of the program's functions over data, and the plain laws that they meet (part 5). No condition. -/
import Derived.Test.YtahjjfhjjbgjaaaGreatDfd
import Derived.WalkKit
import Derived.WalkSpells
import Derived.WalkLawsBesides
import Derived.Lib.Hide
import Derived.Deep.RegionHeld3
import Derived.Maps.AppendAt
import Derived.KernelRfl
import Derived.Lib.AppendStr
import Derived.Orders
import Derived.LoopTactic
import Derived.Laws.CopyRow
import Derived.Laws.Cells
import Derived.Great.BuildSlice
import Derived.Laws.ResultCell
import Derived.Laws.StructEq
import Derived.Laws.MakeOwn
import Derived.Deep.Slices
import Derived.Deep.Fields
import Derived.ChangeSame
import Derived.ProofKit
import Derived.OpenShut
import Derived.SizedLaws
import Derived.Test.YtahjjfhjjbgjaaaGreatProg
import Derived.Shelf.Spec.BitsCarry
import Derived.Lib.AppendZerosOnto
import Derived.DeepKeys4
import Derived.MapKept
set_option linter.unusedVariables false
set_option linter.unusedSimpArgs false
set_option maxRecDepth 100000
set_option maxHeartbeats 4000000
section
namespace Go.Proofs.YtahjjfhjjbgjaaaGreat.Sm
open Go.RowKit
def Cf.Small (c : Cf) : Prop := ∀ t ∈ c.tables, t.flatten.length ≤ 1000000000000000
theorem countT_len : ∀ (t : List (List Rl)) (n : Nat), n + t.flatten.length ≤ 4000000000000000 → countT t n = ((n + t.flatten.length : Nat) : Int)
 | [], n, _ => by simp [countT]
 | l :: t, n, h => by
  rw [List.flatten_cons, List.length_append] at h ⊢
  have e : IntKind.i64.wrap ((n : Int) + (l.length : Nat)) = ((n + l.length : Nat) : Int) := by
   rw [IntKind.wrap_i64]
   omega
  rw [countT, e, countT_len t _ (by omega)]
  congr 1
  omega
theorem flat_bound {α : Type} {m : Nat} : ∀ (l : List (List α)), (∀ x ∈ l, x.length ≤ m) → l.flatten.length ≤ m * l.length
 | [], _ => by simp
 | x :: l, h => by
  have h1 := h x List.mem_cons_self
  have h2 := flat_bound l fun y hy => h y (List.mem_cons_of_mem _ hy)
  rw [List.flatten_cons, List.length_append, List.length_cons, Nat.mul_add, Nat.mul_one]
  omega
theorem rulesOf_len {c : Cf} (h : c.Ok) (hS : c.Small) : (rulesOf c).length ≤ 576 := by
 have h0 := topoSound_ok h.topo
 have hl := h.len
 have h1 : ∀ x ∈ c.tables.map List.flatten, x.length ≤ 96 := fun x hx => by
  obtain ⟨t, ht, rfl⟩ := List.mem_map.1 hx
  obtain ⟨n, hn⟩ := List.mem_iff_getElem?.1 ht
  have := (tabSound_ok (h.tabs n t hn))
  have h3 := hS t ht
  have h2 := countT_len t 0 (by omega)
  have h4 : ((0 : Nat) : Int) = 0 := rfl
  rw [h4] at h2
  omega
 have h2 := flat_bound _ h1
 have h3 : (rulesOf c).length = (c.tables.map List.flatten).flatten.length := by
  rw [rulesOf, List.flatten_flatten]
 rw [h3]
 rw [List.length_map] at h2
 omega
theorem setsR_eq : ∀ (rs : List Rl) (l : List Cb), rs.foldl setC l = setsR l rs
 | [], l => rfl
 | r :: rs, l => by rw [List.foldl_cons, setsR_eq, setsR]; rfl
theorem addAll_len : ∀ (xs l : List Cb), (addAll l xs).length ≤ l.length + xs.length
 | [], l => Nat.le_refl _
 | x :: xs, l => by
  rw [addAll]
  have := addAll_len xs (addC l x)
  have := addC_len l x
  rw [List.length_cons]
  omega
theorem setsR_len : ∀ (rs : List Rl) (l : List Cb), (setsR l rs).length ≤ l.length + rs.length
 | [], l => Nat.le_refl _
 | r :: rs, l => by
  have h1 := setsR_len rs (setC l r)
  have h2 := setC_len l r
  rw [List.length_cons]
  show (setsR (setC l r) rs).length ≤ _
  omega
def ls7B (c : Cf) (l : List Cb) : List (Nat × SB) := (2, ⟨0, some (.box 31 (cCf c))⟩) :: (7, ⟨0, some (.box 180 [.own 200 0 0])⟩) :: lsB l
theorem ls_end7 {s : St} {c : Cf} {l : List Cb} {e e9 e8 e8' e1 e1' e2 e2' n : Nat} {els : List (List AV)} {o : Body} (h9 : s.σ 2 = ⟨e9, some (.box 31 (cCf c))⟩) (h8 : s.σ 7 = ⟨e8, some (.box 180 [.own 200 e8' 0])⟩) (h0 : s.σ 200 = ⟨e, some (.box 185 [.row 201 e1 0 n, .ref 202 e2 .map])⟩) (h1 : s.σ 201 = ⟨e1', some (.row 50 4 els)⟩) (h2 : s.σ 202 = ⟨e2', some o⟩)
  (h8e : e8' = e) (he : e1 = e1') (he2 : e2 = e2') (hn : n = (l.map cCb).length) (hel : els = l.map cCb) (ho : o = mapO l) : WkB s (lkB (ls7B c l)) (ls7B c l) := by
 subst h8e he he2 hn hel ho
 exact ⟨WkB1.same h9 rfl rfl, .boxL h8 ⟨Rn.ownIs rfl h0 rfl, trivial⟩ rfl, .boxL h0 ⟨Rn.rowIs rfl h1 rfl, Rn.refIs rfl h2 rfl, trivial⟩ rfl, .row h1 rfl, .obj h2 rfl, trivial⟩
theorem d_Sets (c : Cf) (h0 : c.sound = 0) (hS : c.Small) (V : Nat) (hV : V ≤ 255) : PDoes Tryz.prog 112 [.agg (cCf c), .i .i64 (V : Nat)] (.tup [.sl ((setsOf c V).map cCb), .i .i64 0]) := by
  have hc := Cf.ok h0
  have hE := edges_len hc.topo
  have hR := rulesOf_len hc hS
  refine PDoes.of_bodyN Tryz.func112 rfl (by kernel_rfl) rfl rfl ?_
  have hm : (edges c.topo.ports).length ≤ 9223372036854775807 := by omega
  have hCS := d_CSound c
  rw [h0] at hCS
  skip;(repeat(first|(with_reducible first|apply wA|apply wB|apply wC|(apply wD;first|(refine wE ⟨?_,?_⟩;· kernel_rfl)|apply wE))|((with_reducible first|apply wF|apply wG);refine wH rfl ?_)))
  refine RG.callS rfl rfl rfl rfl rfl hCS rfl rfl ?_; refine wH rfl ?_;(repeat(first|(with_reducible first|apply wA|apply wB|apply wC|(apply wD;first|(refine wE ⟨?_,?_⟩;· kernel_rfl)|apply wE))|((with_reducible first|apply wF|apply wG);refine wH rfl ?_)))
  refine AW.condF rfl ?_; skip;(repeat(first|(with_reducible first|apply wA|apply wB|apply wC|(apply wD;first|(refine wE ⟨?_,?_⟩;· kernel_rfl)|apply wE))))
  refine AW.text ?_
  have g1 : ¬ ((V : Nat) : Int) < 0 := by omega
  have g2 : ¬ ((V : Nat) : Int) > 255 := by omega
  refine RG.runO ty_ok 0 [(18, .b false), (21, .b false)] 400 rfl (by repeat' (first|exact trivial|apply And.intro|exact dT ‹_›|exact dF ‹_›|exact dN ‹_›|exact dM ‹_›|exact dI ‹_›)) ?_
  skip;(repeat(first|(with_reducible first|apply wA|apply wB|apply wC|(apply wD;first|(refine wE ⟨?_,?_⟩;· kernel_rfl)|apply wE))))
  refine AW.condF rfl ?_; skip;(repeat(first|(with_reducible first|apply wA|apply wB|apply wC|(apply wD;first|(refine wE ⟨?_,?_⟩;· kernel_rfl)|apply wE))|((with_reducible first|apply wF|apply wG);refine wH rfl ?_)))
  refine RG.ownN [] [(3, 200), (1, 202), (9, 201)] m_fresh rfl rfl rfl rfl rfl rfl rfl rfl rfl rfl ?_
  refine wH rfl ?_;(repeat(first|(with_reducible first|apply wA|apply wB|apply wC|(apply wD;first|(refine wE ⟨?_,?_⟩;· kernel_rfl)|apply wE))|((with_reducible first|apply wF|apply wG);refine wH rfl ?_)))
  refine RG.callMS rfl rfl rfl rfl rfl rfl (d_Edges c.topo.ports hc.topo) rfl ?_; refine wH rfl ?_;(repeat(first|(with_reducible first|apply wA|apply wB|apply wC|(apply wD;first|(refine wE ⟨?_,?_⟩;· kernel_rfl)|apply wE))|((with_reducible first|apply wF|apply wG);refine wH rfl ?_)))
  generalize hA : addAll [] ((edges c.topo.ports).map fun s => stampOf c s V) = A
  have hG : setsR A (rulesOf c) = setsOf c V := by rw [setsOf, hA]
  have hAl : A.length ≤ 36 := by
    rw [← hA]
    have := addAll_len ((edges c.topo.ports).map fun s => stampOf c s V) []
    rw [List.length_map] at this
    simp at this
    omega
  have hst : ∀ s ∈ edges c.topo.ports, PDoes Tryz.prog 85 [.agg (cCf c), .agg (cSp s), .i .i64 (V : Nat)] (.tup [.agg (cCb (stampOf c s V)), .i .i64 0]) := fun s hs => by
    have h := d_CStamp c s V
    have e : stampE c s V = 0 := by rw [stampE, if_pos h0, if_neg (by omega), if_pos hs]
    rw [stampC, if_pos e, e] at h
    exact h
  refine AW.loopL (ι := Nat × List Cb) (fun i => [(1, .i .i64 (V : Nat)), (2, .own 2 0 0), (7, .own 7 0 0), (27, .sl ((edges c.topo.ports).map cSp)), (28, .i .i64 ((edges c.topo.ports).map cSp).length), (29, .i .i64 (i.1 : Nat))]) (fun i => ls7B c i.2) (fun i => (i.1 ≤ (edges c.topo.ports).length ∧ i.2.length ≤ i.1) ∧ addAll i.2 (((edges c.topo.ports).drop i.1).map fun s => stampOf c s V) = A) (fun i => (edges c.topo.ports).length - i.1) (0, []) ⟨⟨Nat.zero_le _, Nat.zero_le _⟩, hA⟩ ⟨Rn.is rfl rfl, Rn.ownIs rfl rfl rfl, Rn.ownIs rfl rfl rfl, Rn.is rfl rfl, Rn.is rfl rfl, Rn.is rfl rfl, trivial⟩ (ls_end7 rfl rfl rfl rfl rfl rfl rfl rfl rfl rfl rfl) fun i hi => ?_
  clear hA
  obtain ⟨k, l⟩ := i
  obtain ⟨⟨hk, hl⟩, hf⟩ := hi
  simp only at hk hl hf
  skip;(repeat(first|(with_reducible first|apply wA|apply wB|apply wC|(apply wD;first|(refine wE ⟨?_,?_⟩;· kernel_rfl)|apply wE))|((with_reducible first|apply wF|apply wG);refine wH rfl ?_)))
  refine AW.cond rfl (fun h1 => ?_) (fun h1 => ?_)
  rotate_left
  · have h : ¬ k < (edges c.topo.ports).length := by simpa using h1
    obtain rfl : k = (edges c.topo.ports).length := by omega
    rw [List.drop_length] at hf
    obtain rfl : l = A := hf
    have hsl := setsR_len (rulesOf c) l
    skip;(repeat(first|(with_reducible first|apply wA|apply wB|apply wC|(apply wD;first|(refine wE ⟨?_,?_⟩;· kernel_rfl)|apply wE))|((with_reducible first|apply wF|apply wG);refine wH rfl ?_)))
    refine AW.exit ?_; refine Eq.mpr (if_pos rfl) ?_; skip;(repeat(first|(with_reducible first|apply wA|apply wB|apply wC|(apply wD;first|(refine wE ⟨?_,?_⟩;· kernel_rfl)|apply wE))|((with_reducible first|apply wF|apply wG);refine wH rfl ?_)))
    refine RG.ownN [(200, 200), (201, 201), (202, 202)] [(200, 200), (201, 201), (202, 202)] (fun q => m_rules 154 setC setC_len m_set c l (by omega) q) rfl rfl rfl rfl rfl rfl rfl rfl rfl rfl ?_
    rw [setsR_eq, hG]
    refine wH rfl ?_;(repeat(first|(with_reducible first|apply wA|apply wB|apply wC|(apply wD;first|(refine wE ⟨?_,?_⟩;· kernel_rfl)|apply wE))|((with_reducible first|apply wF|apply wG);refine wH rfl ?_)))
    refine RG.callMS rfl rfl rfl rfl (congrArg (fun x => [x]) (rowAll rfl)) rfl (d_Clip_Cb (setsOf c V)) rfl ?_; refine wH rfl ?_;(repeat(first|(with_reducible first|apply wA|apply wB|apply wC|(apply wD;first|(refine wE ⟨?_,?_⟩;· kernel_rfl)|apply wE))|((with_reducible first|apply wF|apply wG);refine wH rfl ?_)))
    refine AW.ret (retQA ty_ok rfl rfl rfl ?_)
    rfl
  have h : k < (edges c.topo.ports).length := by simpa using h1
  rw [List.drop_eq_getElem_cons h, List.map_cons, addAll] at hf
  have hs := hst _ (List.getElem_mem h)
  skip;(repeat(first|(with_reducible first|apply wA|apply wB|apply wC|(apply wD;first|(refine wE ⟨?_,?_⟩;· kernel_rfl)|apply wE))))
  refine AW.text ?_
  refine RG.opS rfl (op_index rfl (tab_ok ty_ok rfl) rfl (tab_ok ty_ok rfl) rfl rfl (show ((edges c.topo.ports).map cSp)[k]? = some (cSp (edges c.topo.ports)[k]) by rw [List.getElem?_map, List.getElem?_eq_getElem (by assumption)]; rfl) rfl) rfl ?_
  generalize (edges c.topo.ports)[k] = s at hf hs
  refine wH rfl ?_;(repeat(first|(with_reducible first|apply wA|apply wB|apply wC|(apply wD;first|(refine wE ⟨?_,?_⟩;· kernel_rfl)|apply wE))|((with_reducible first|apply wF|apply wG);refine wH rfl ?_)))
  refine RG.callMS rfl rfl rfl rfl rfl rfl hs rfl ?_; refine wH rfl ?_;(repeat(first|(with_reducible first|apply wA|apply wB|apply wC|(apply wD;first|(refine wE ⟨?_,?_⟩;· kernel_rfl)|apply wE))|((with_reducible first|apply wF|apply wG);refine wH rfl ?_)))
  refine AW.condF rfl ?_; skip;(repeat(first|(with_reducible first|apply wA|apply wB|apply wC|(apply wD;first|(refine wE ⟨?_,?_⟩;· kernel_rfl)|apply wE))|((with_reducible first|apply wF|apply wG);refine wH rfl ?_)))
  refine RG.ownN [(200, 200), (201, 201), (202, 202)] [(200, 200), (201, 201), (202, 202)] (fun q => m_add l (stampOf c s V) (by omega) q) rfl rfl rfl rfl rfl rfl rfl rfl rfl rfl ?_
  refine wH rfl ?_;(repeat(first|(with_reducible first|apply wA|apply wB|apply wC|(apply wD;first|(refine wE ⟨?_,?_⟩;· kernel_rfl)|apply wE))|((with_reducible first|apply wF|apply wG);refine wH rfl ?_)))
  have hal := addC_len l (stampOf c s V)
  exact ⟨(k + 1, addC l (stampOf c s V)), ⟨⟨⟨h, by show (addC l (stampOf c s V)).length ≤ k + 1; omega⟩, hf⟩, by show (edges c.topo.ports).length - (k + 1) < (edges c.topo.ports).length - k; omega⟩, ⟨Rn.is rfl rfl, Rn.ownIs rfl rfl rfl, Rn.ownIs rfl rfl rfl, Rn.is rfl rfl, Rn.is rfl rfl, Rn.is (i64_next h hm) rfl, trivial⟩, (ls_end7 rfl rfl rfl rfl rfl rfl rfl rfl rfl rfl rfl)⟩
end Go.Proofs.YtahjjfhjjbgjaaaGreat.Sm
end
section
namespace Go.Proofs.YtahjjfhjjbgjaaaGreat.Sm
open Go.RowKit
def matC (l : List Cb) (r : Rl) : List Cb := addC l r.mat
theorem matC_eq : ∀ (rs : List Rl) (l : List Cb), rs.foldl matC l = addAll l (rs.map Rl.mat)
 | [], l => rfl
 | r :: rs, l => by rw [List.foldl_cons, matC_eq, List.map_cons, addAll]; rfl
theorem addC_get {l : List Cb} {x p : Cb} {n : Nat} (h : l[n]? = some p) : (addC l x)[n]? = some p := by
 obtain ⟨m, hm⟩ := addC_pre (l := l) (x := x)
 rw [hm, List.getElem?_append_left (List.getElem?_eq_some_iff.1 h).1]
 exact h
def ls8B (l : List Cb) : List (Nat × SB) := (8, ⟨0, some (.box 180 [.own 200 0 0])⟩) :: lsB l
theorem ls_end8 {s : St} {l : List Cb} {e e8 e8' e1 e1' e2 e2' n : Nat} {els : List (List AV)} {o : Body} (h8 : s.σ 8 = ⟨e8, some (.box 180 [.own 200 e8' 0])⟩) (h0 : s.σ 200 = ⟨e, some (.box 185 [.row 201 e1 0 n, .ref 202 e2 .map])⟩) (h1 : s.σ 201 = ⟨e1', some (.row 50 4 els)⟩) (h2 : s.σ 202 = ⟨e2', some o⟩)
  (h8e : e8' = e) (he : e1 = e1') (he2 : e2 = e2') (hn : n = (l.map cCb).length) (hel : els = l.map cCb) (ho : o = mapO l) : WkB s (lkB (ls8B l)) (ls8B l) := by
 subst h8e he he2 hn hel ho
 exact ⟨.boxL h8 ⟨Rn.ownIs rfl h0 rfl, trivial⟩ rfl, .boxL h0 ⟨Rn.rowIs rfl h1 rfl, Rn.refIs rfl h2 rfl, trivial⟩ rfl, .row h1 rfl, .obj h2 rfl, trivial⟩
def ofR (a : List Cb) (l' : List Cb) : AV := bif decide (a.length > 500) then .tup [.sl [], .i .i64 10] else .tup [.sl (l'.map cCb), .i .i64 0]
theorem d_Of (c : Cf) (h0 : c.sound = 0) (hS : c.Small) (V : Nat) (hV : V ≤ 255) (l' : List Cb) (hP : l'.Perm (askedOf c V)) (hM : (askedOf c V).length ≤ 500 → MSort (askedOf c V) l') : PDoes Tryz.prog 72 [.agg (cCf c), .i .i64 (V : Nat)] (ofR (askedOf c V) l') := by
  have hc := Cf.ok h0
  have hE := edges_len hc.topo
  have hR := rulesOf_len hc hS
  have hsl : (setsOf c V).length ≤ 700 := by
    rw [setsOf]
    have h1 := setsR_len (rulesOf c) (addAll [] ((edges c.topo.ports).map fun s => stampOf c s V))
    have h2 := addAll_len ((edges c.topo.ports).map fun s => stampOf c s V) []
    rw [List.length_map, List.length_nil] at h2
    omega
  have hal := addAll_len ((rulesOf c).map Rl.mat) []
  rw [List.length_map, List.length_nil] at hal
  have hms := d_Sets c h0 hS V hV
  rw [askedOf] at hP hM ⊢
  refine PDoes.of_bodyN Tryz.func72 rfl (by kernel_rfl) rfl rfl ?_
  generalize setsOf c V = sets at hP hM hsl hms ⊢
  have hm : sets.length ≤ 9223372036854775807 := by omega
  generalize hA : closeF sets 501 0 (addAll [] ((rulesOf c).map Rl.mat)) = A at hP hM ⊢
  skip;(repeat(first|(with_reducible first|apply wA|apply wB|apply wC|(apply wD;first|(refine wE ⟨?_,?_⟩;· kernel_rfl)|apply wE))|((with_reducible first|apply wF|apply wG);refine wH rfl ?_)))
  refine RG.callMS rfl rfl rfl rfl rfl rfl hms rfl ?_; refine wH rfl ?_;(repeat(first|(with_reducible first|apply wA|apply wB|apply wC|(apply wD;first|(refine wE ⟨?_,?_⟩;· kernel_rfl)|apply wE))|((with_reducible first|apply wF|apply wG);refine wH rfl ?_)))
  refine AW.condF rfl ?_; skip;(repeat(first|(with_reducible first|apply wA|apply wB|apply wC|(apply wD;first|(refine wE ⟨?_,?_⟩;· kernel_rfl)|apply wE))|((with_reducible first|apply wF|apply wG);refine wH rfl ?_)))
  refine RG.ownN [] [(3, 200), (1, 202), (9, 201)] m_fresh rfl rfl rfl rfl rfl rfl rfl rfl rfl rfl ?_
  refine wH rfl ?_;(repeat(first|(with_reducible first|apply wA|apply wB|apply wC|(apply wD;first|(refine wE ⟨?_,?_⟩;· kernel_rfl)|apply wE))|((with_reducible first|apply wF|apply wG);refine wH rfl ?_)))
  refine RG.ownN [(200, 200), (201, 201), (202, 202)] [(200, 200), (201, 201), (202, 202)] (fun q => m_rules 115 matC (fun l r => addC_len l r.mat) m_match c [] (by simp; omega) q) rfl rfl rfl rfl rfl rfl rfl rfl rfl rfl ?_
  rw [matC_eq]
  generalize addAll [] ((rulesOf c).map Rl.mat) = all at hA hal
  refine wH rfl ?_;(repeat(first|(with_reducible first|apply wA|apply wB|apply wC|(apply wD;first|(refine wE ⟨?_,?_⟩;· kernel_rfl)|apply wE))|((with_reducible first|apply wF|apply wG);refine wH rfl ?_)))
  refine AW.loopL (ι := Nat × List Cb) (fun i => [(6, .sl (sets.map cCb)), (8, .own 8 0 0), (9, .i .i64 (i.1 : Nat))]) (fun i => ls8B i.2) (fun i => (i.1 ≤ 501 ∧ i.2.length ≤ 2000) ∧ closeF sets (501 - i.1) i.1 i.2 = A) (fun i => 501 - i.1) (0, all) ⟨⟨Nat.zero_le _, by show all.length ≤ 2000; omega⟩, hA⟩ ⟨Rn.is rfl rfl, Rn.ownIs rfl rfl rfl, Rn.is rfl rfl, trivial⟩ (ls_end8 rfl rfl rfl rfl rfl rfl rfl rfl rfl rfl) fun i hi => ?_
  clear hA hal all
  obtain ⟨n, all⟩ := i
  obtain ⟨⟨hn, hl⟩, hf⟩ := hi
  simp only at hn hl hf
  have hlm : (all.map cCb).length = all.length := List.length_map ..
  skip;(repeat(first|(with_reducible first|apply wA|apply wB|apply wC|(apply wD;first|(refine wE ⟨?_,?_⟩;· kernel_rfl)|apply wE))))
  refine AW.text ?_
  by_cases g1 : ((n : Nat) : Int) < ((all.map cCb).length : Nat)
  · by_cases g2 : (((all.map cCb).length : Nat) : Int) ≤ 500
    · refine RG.runO ty_ok 0 [(36, .b true), (44, .b true)] 400 rfl (by repeat' (first|exact trivial|apply And.intro|exact dT ‹_›|exact dF ‹_›|exact dN ‹_›|exact dM ‹_›|exact dI ‹_›)) ?_
      have hn5 : n < 500 := by omega
      have e1 : all[n]? = some (all.getD n Cb.zero) := by rw [getD_eq (by omega)]; exact List.getElem?_eq_getElem _
      rw [show 501 - n = (501 - (n + 1)) + 1 by omega, closeF, decide_eq_true (show n < all.length by omega), decide_eq_true (show all.length ≤ 500 by omega), Bool.and_self, cond_true] at hf
      have hl5 : all.length ≤ 500 := by omega
      generalize all.getD n Cb.zero = p at hf e1
      skip;(repeat(first|(with_reducible first|apply wA|apply wB|apply wC|(apply wD;first|(refine wE ⟨?_,?_⟩;· kernel_rfl)|apply wE))))
      refine AW.condT rfl ?_; skip;(repeat(first|(with_reducible first|apply wA|apply wB|apply wC|(apply wD;first|(refine wE ⟨?_,?_⟩;· kernel_rfl)|apply wE))|((with_reducible first|apply wF|apply wG);refine wH rfl ?_)))
      refine AW.loopL (ι := Nat × List Cb) (fun i => [(6, .sl (sets.map cCb)), (8, .own 8 0 0), (9, .i .i64 (n : Nat)), (48, .sl (sets.map cCb)), (49, .i .i64 (sets.map cCb).length), (50, .i .i64 (i.1 : Nat))]) (fun i => ls8B i.2) (fun i => (i.1 ≤ sets.length ∧ i.2.length ≤ 500 + i.1 ∧ i.2[n]? = some p) ∧ closeF sets (501 - (n + 1)) (n + 1) (closeRow p (sets.drop i.1) i.2) = A) (fun i => sets.length - i.1) (0, all) ⟨⟨Nat.zero_le _, hl5, e1⟩, hf⟩ ⟨Rn.is rfl rfl, Rn.ownIs rfl rfl rfl, Rn.is rfl rfl, Rn.is rfl rfl, Rn.is rfl rfl, Rn.is rfl rfl, trivial⟩ (ls_end8 rfl rfl rfl rfl rfl rfl rfl rfl rfl rfl) fun i hi => ?_
      clear hf e1 hl5
      obtain ⟨k, out⟩ := i
      obtain ⟨⟨hk, hl2, e1⟩, hf⟩ := hi
      simp only at hk hl2 e1 hf
      have hno := (List.getElem?_eq_some_iff.1 e1).1
      skip;(repeat(first|(with_reducible first|apply wA|apply wB|apply wC|(apply wD;first|(refine wE ⟨?_,?_⟩;· kernel_rfl)|apply wE))|((with_reducible first|apply wF|apply wG);refine wH rfl ?_)))
      refine AW.cond rfl (fun h3 => ?_) (fun h3 => ?_)
      rotate_left
      · have h : ¬ k < sets.length := by simpa using h3
        obtain rfl : k = sets.length := by omega
        rw [List.drop_length, closeRow] at hf
        skip;(repeat(first|(with_reducible first|apply wA|apply wB|apply wC|(apply wD;first|(refine wE ⟨?_,?_⟩;· kernel_rfl)|apply wE))|((with_reducible first|apply wF|apply wG);refine wH rfl ?_)))
        refine AW.exit ?_; refine Eq.mpr (if_pos rfl) ?_; skip;(repeat(first|(with_reducible first|apply wA|apply wB|apply wC|(apply wD;first|(refine wE ⟨?_,?_⟩;· kernel_rfl)|apply wE))|((with_reducible first|apply wF|apply wG);refine wH rfl ?_)))
        exact ⟨(n + 1, out), ⟨⟨⟨by show n + 1 ≤ 501; omega, by show out.length ≤ 2000; omega⟩, hf⟩, by show 501 - (n + 1) < 501 - n; omega⟩, ⟨Rn.is rfl rfl, Rn.ownIs rfl rfl rfl, Rn.is (i64_next (show n < 1000 by omega) (by decide)) rfl, trivial⟩, ls_end8 rfl rfl rfl rfl rfl rfl rfl rfl rfl rfl⟩
      have h : k < sets.length := by simpa using h3
      rw [List.drop_eq_getElem_cons h, closeRow] at hf
      skip;(repeat(first|(with_reducible first|apply wA|apply wB|apply wC|(apply wD;first|(refine wE ⟨?_,?_⟩;· kernel_rfl)|apply wE))))
      refine AW.text ?_
      refine RG.opS rfl (op_index rfl (tab_ok ty_ok rfl) rfl (tab_ok ty_ok rfl) rfl rfl (show (sets.map cCb)[k]? = some (cCb sets[k]) by rw [List.getElem?_map, List.getElem?_eq_getElem (by assumption)]; rfl) rfl) rfl ?_
      generalize sets[k] = s at hf
      refine wH rfl ?_;(repeat(first|(with_reducible first|apply wA|apply wB|apply wC|(apply wD;first|(refine wE ⟨?_,?_⟩;· kernel_rfl)|apply wE))|((with_reducible first|apply wF|apply wG);refine wH rfl ?_)))
      refine RG.opS rfl (op_indexR0 (n) cCb (out) (by rw [List.length_map]; exact hno) rfl (tab_ok ty_ok rfl) rfl (tab_ok ty_ok rfl) rfl rfl rfl) rfl ?_
      refine RG.opS rfl (op_loadRow (n) cCb (out) p e1 rfl (tab_ok ty_ok rfl) rfl rfl rfl) rfl ?_
      refine wH rfl ?_
      cases hh : p.hits s
      · rw [hh, cond_false] at hf
        refine RG.callS rfl rfl rfl rfl rfl (d_Before p s _ hh) rfl rfl ?_; refine wH rfl ?_;(repeat(first|(with_reducible first|apply wA|apply wB|apply wC|(apply wD;first|(refine wE ⟨?_,?_⟩;· kernel_rfl)|apply wE))|((with_reducible first|apply wF|apply wG);refine wH rfl ?_)))
        refine AW.condF rfl ?_; skip;(repeat(first|(with_reducible first|apply wA|apply wB|apply wC|(apply wD;first|(refine wE ⟨?_,?_⟩;· kernel_rfl)|apply wE))|((with_reducible first|apply wF|apply wG);refine wH rfl ?_)))
        exact ⟨(k + 1, out), ⟨⟨⟨h, by show out.length ≤ 500 + (k + 1); omega, e1⟩, hf⟩, by show sets.length - (k + 1) < sets.length - k; omega⟩, ⟨Rn.is rfl rfl, Rn.ownIs rfl rfl rfl, Rn.is rfl rfl, Rn.is rfl rfl, Rn.is rfl rfl, Rn.is (i64_next h hm) rfl, trivial⟩, ls_end8 rfl rfl rfl rfl rfl rfl rfl rfl rfl rfl⟩
      · rw [hh, cond_true] at hf
        have ha := addC_len out (p.before s)
        refine RG.callS rfl rfl rfl rfl rfl (d_Before p s _ hh) rfl rfl ?_; refine wH rfl ?_;(repeat(first|(with_reducible first|apply wA|apply wB|apply wC|(apply wD;first|(refine wE ⟨?_,?_⟩;· kernel_rfl)|apply wE))|((with_reducible first|apply wF|apply wG);refine wH rfl ?_)))
        refine AW.condT rfl ?_; skip;(repeat(first|(with_reducible first|apply wA|apply wB|apply wC|(apply wD;first|(refine wE ⟨?_,?_⟩;· kernel_rfl)|apply wE))|((with_reducible first|apply wF|apply wG);refine wH rfl ?_)))
        refine RG.ownN [(200, 200), (201, 201), (202, 202)] [(200, 200), (201, 201), (202, 202)] (fun q => m_add out (p.before s) (by omega) q) rfl rfl rfl rfl rfl rfl rfl rfl rfl rfl ?_
        refine wH rfl ?_;(repeat(first|(with_reducible first|apply wA|apply wB|apply wC|(apply wD;first|(refine wE ⟨?_,?_⟩;· kernel_rfl)|apply wE))|((with_reducible first|apply wF|apply wG);refine wH rfl ?_)))
        exact ⟨(k + 1, addC out (p.before s)), ⟨⟨⟨h, by show (addC out (p.before s)).length ≤ 500 + (k + 1); omega, addC_get e1⟩, hf⟩, by show sets.length - (k + 1) < sets.length - k; omega⟩, ⟨Rn.is rfl rfl, Rn.ownIs rfl rfl rfl, Rn.is rfl rfl, Rn.is rfl rfl, Rn.is rfl rfl, Rn.is (i64_next h hm) rfl, trivial⟩, ls_end8 rfl rfl rfl rfl rfl rfl rfl rfl rfl rfl⟩
    · refine RG.runO ty_ok 0 [(36, .b true), (44, .b false)] 400 rfl (by repeat' (first|exact trivial|apply And.intro|exact dT ‹_›|exact dF ‹_›|exact dN ‹_›|exact dM ‹_›|exact dI ‹_›)) ?_
      have e : all = A := by
        by_cases hz : 501 - n = 0
        · rw [hz, closeF] at hf; exact hf
        · rw [show 501 - n = (501 - n - 1) + 1 by omega, closeF] at hf
          have : (decide (n < all.length) && decide (all.length ≤ 500)) = false := by
            rw [Bool.and_eq_false_iff]
            simp only [decide_eq_false_iff_not]
            omega
          rw [this] at hf
          exact hf
      subst e
      clear hf
      skip;(repeat(first|(with_reducible first|apply wA|apply wB|apply wC|(apply wD;first|(refine wE ⟨?_,?_⟩;· kernel_rfl)|apply wE))))
      refine AW.condF rfl ?_; skip;(repeat(first|(with_reducible first|apply wA|apply wB|apply wC|(apply wD;first|(refine wE ⟨?_,?_⟩;· kernel_rfl)|apply wE))|((with_reducible first|apply wF|apply wG);refine wH rfl ?_)))
      refine AW.exit ?_; refine Eq.mpr (if_pos rfl) ?_; skip;(repeat(first|(with_reducible first|apply wA|apply wB|apply wC|(apply wD;first|(refine wE ⟨?_,?_⟩;· kernel_rfl)|apply wE))|((with_reducible first|apply wF|apply wG);refine wH rfl ?_)))
      refine AW.cond rfl (fun h3 => ?_) (fun h3 => ?_)
      · have h3 : (((all.map cCb).length : Nat) : Int) > 500 := of_decide_eq_true h3
        have e : ofR all l' = .tup [.sl [], .i .i64 10] := by rw [ofR, decide_eq_true (by omega)]; rfl
        rw [e]
        skip;(repeat(first|(with_reducible first|apply wA|apply wB|apply wC|(apply wD;first|(refine wE ⟨?_,?_⟩;· kernel_rfl)|apply wE))|((with_reducible first|apply wF|apply wG);refine wH rfl ?_)))
        refine AW.ret (retQA ty_ok rfl rfl rfl ?_)
        rfl
      · have h3 : ¬ (((all.map cCb).length : Nat) : Int) > 500 := of_decide_eq_false h3
        have hl' := hP.length_eq
        have e : ofR all l' = .tup [.sl (l'.map cCb), .i .i64 0] := by rw [ofR, decide_eq_false (by omega)]; rfl
        rw [e]
        skip;(repeat(first|(with_reducible first|apply wA|apply wB|apply wC|(apply wD;first|(refine wE ⟨?_,?_⟩;· kernel_rfl)|apply wE))|((with_reducible first|apply wF|apply wG);refine wH rfl ?_)))
        refine RG.ownN [(200, 200), (201, 201), (202, 202)] [(200, 200), (201, 201), (202, 202)] (fun q => hM (by omega) all _ rfl q) rfl rfl rfl rfl rfl rfl rfl rfl rfl rfl ?_
        refine wH rfl ?_;(repeat(first|(with_reducible first|apply wA|apply wB|apply wC|(apply wD;first|(refine wE ⟨?_,?_⟩;· kernel_rfl)|apply wE))|((with_reducible first|apply wF|apply wG);refine wH rfl ?_)))
        refine RG.callMS rfl rfl rfl rfl (congrArg (fun x => [x]) (show AV.sl (List.take (all.map cCb).length (List.drop 0 (l'.map cCb))) = .sl (l'.map cCb) by rw [List.drop_zero, List.take_of_length_le (by rw [List.length_map, List.length_map]; omega)])) rfl (d_Clip_Cb l') rfl ?_; refine wH rfl ?_;(repeat(first|(with_reducible first|apply wA|apply wB|apply wC|(apply wD;first|(refine wE ⟨?_,?_⟩;· kernel_rfl)|apply wE))|((with_reducible first|apply wF|apply wG);refine wH rfl ?_)))
        refine AW.ret (retQA ty_ok rfl rfl rfl ?_)
        rfl
  · refine RG.runO ty_ok 0 [(36, .b false)] 400 rfl (by repeat' (first|exact trivial|apply And.intro|exact dT ‹_›|exact dF ‹_›|exact dN ‹_›|exact dM ‹_›|exact dI ‹_›)) ?_
    have e : all = A := by
      by_cases hz : 501 - n = 0
      · rw [hz, closeF] at hf; exact hf
      · rw [show 501 - n = (501 - n - 1) + 1 by omega, closeF] at hf
        have : (decide (n < all.length) && decide (all.length ≤ 500)) = false := by
          rw [Bool.and_eq_false_iff]
          simp only [decide_eq_false_iff_not]
          omega
        rw [this] at hf
        exact hf
    subst e
    clear hf
    skip;(repeat(first|(with_reducible first|apply wA|apply wB|apply wC|(apply wD;first|(refine wE ⟨?_,?_⟩;· kernel_rfl)|apply wE))))
    refine AW.condF rfl ?_; skip;(repeat(first|(with_reducible first|apply wA|apply wB|apply wC|(apply wD;first|(refine wE ⟨?_,?_⟩;· kernel_rfl)|apply wE))|((with_reducible first|apply wF|apply wG);refine wH rfl ?_)))
    refine AW.exit ?_; refine Eq.mpr (if_pos rfl) ?_; skip;(repeat(first|(with_reducible first|apply wA|apply wB|apply wC|(apply wD;first|(refine wE ⟨?_,?_⟩;· kernel_rfl)|apply wE))|((with_reducible first|apply wF|apply wG);refine wH rfl ?_)))
    refine AW.cond rfl (fun h3 => ?_) (fun h3 => ?_)
    · have h3 : (((all.map cCb).length : Nat) : Int) > 500 := of_decide_eq_true h3
      have e : ofR all l' = .tup [.sl [], .i .i64 10] := by rw [ofR, decide_eq_true (by omega)]; rfl
      rw [e]
      skip;(repeat(first|(with_reducible first|apply wA|apply wB|apply wC|(apply wD;first|(refine wE ⟨?_,?_⟩;· kernel_rfl)|apply wE))|((with_reducible first|apply wF|apply wG);refine wH rfl ?_)))
      refine AW.ret (retQA ty_ok rfl rfl rfl ?_)
      rfl
    · have h3 : ¬ (((all.map cCb).length : Nat) : Int) > 500 := of_decide_eq_false h3
      have hl' := hP.length_eq
      have e : ofR all l' = .tup [.sl (l'.map cCb), .i .i64 0] := by rw [ofR, decide_eq_false (by omega)]; rfl
      rw [e]
      skip;(repeat(first|(with_reducible first|apply wA|apply wB|apply wC|(apply wD;first|(refine wE ⟨?_,?_⟩;· kernel_rfl)|apply wE))|((with_reducible first|apply wF|apply wG);refine wH rfl ?_)))
      refine RG.ownN [(200, 200), (201, 201), (202, 202)] [(200, 200), (201, 201), (202, 202)] (fun q => hM (by omega) all _ rfl q) rfl rfl rfl rfl rfl rfl rfl rfl rfl rfl ?_
      refine wH rfl ?_;(repeat(first|(with_reducible first|apply wA|apply wB|apply wC|(apply wD;first|(refine wE ⟨?_,?_⟩;· kernel_rfl)|apply wE))|((with_reducible first|apply wF|apply wG);refine wH rfl ?_)))
      refine RG.callMS rfl rfl rfl rfl (congrArg (fun x => [x]) (show AV.sl (List.take (all.map cCb).length (List.drop 0 (l'.map cCb))) = .sl (l'.map cCb) by rw [List.drop_zero, List.take_of_length_le (by rw [List.length_map, List.length_map]; omega)])) rfl (d_Clip_Cb l') rfl ?_; refine wH rfl ?_;(repeat(first|(with_reducible first|apply wA|apply wB|apply wC|(apply wD;first|(refine wE ⟨?_,?_⟩;· kernel_rfl)|apply wE))|((with_reducible first|apply wF|apply wG);refine wH rfl ?_)))
      refine AW.ret (retQA ty_ok rfl rfl rfl ?_)
      rfl
end Go.Proofs.YtahjjfhjjbgjaaaGreat.Sm
end
section
namespace Go.Proofs.YtahjjfhjjbgjaaaGreat.Sm
open Go.RowKit
end Go.Proofs.YtahjjfhjjbgjaaaGreat.Sm
end
section
namespace Go.Proofs.YtahjjfhjjbgjaaaGreat.Sm
open Go.RowKit
section
variable {P : Program} {N : Nat} {o : Oper} {s : St}
theorem op_buildRef {t e len id : Nat} {ti ei : TI} {parts : Array (Nat × Operand)} {xs cs : List AV} (ho : o.op = .buildSlice t len parts) (ht : TiOk P t ti) (hk : ti.k = .slice e) (he : TiOk P e ei) (h1 : ei.n = 1) (hlen : 0 < len) (hbig : Nat.ble len 1000000 = true)
    (hx : parts.toList.map (fun p => s.ev p.2) = xs) (hf : fillA (fun i => some (i * ei.n, ei.n)) (List.replicate len ei.z).flatten ((parts.toList.map (·.1)).zip xs) = some cs) (hl : cs.length = len) (hone : cs.all AV.one = true) :
    OpLoc P N o s ⟨.ref id ((s.σ id).ep + 1) (.sl 0 len len), [(id, ⟨(s.σ id).ep + 1, some (.box e cs)⟩)], []⟩ := by
  subst hx
  have hbig := Nat.le_of_ble_eq_true hbig
  refine oploc_new [] fun s' W F μ a g1 g2 hid hs => ?_
  obtain ⟨inf, d, z, q1, q2, q3, q4, q5, q6, q7⟩ := he.h
  have hp := parts_rel (s := s) hs (parts := parts) fun p hp => g1 p.2 (by rw [ho]; simp only [Op.operands, List.mem_map]; exact ⟨p, hp, rfl⟩)
  have hzr := zsOk_rel (W := W) (F := F) q7
  have hzn := he.zl
  have hzl : ei.z.length = z.cells.size := by rw [← Array.length_toList]; exact hzr.1.symm
  have hzip : (parts.toList.map (·.1)).zip (parts.toList.map fun p => s.ev p.2) = parts.toList.map fun p => (p.1, s.ev p.2) := by
    rw [List.zip_map']
  rw [hzip] at hf
  obtain ⟨us, k1, k2, k3⟩ := fill_ok (W := W) (F := F) (μ := μ) (σ := s'.σ) (parts.toList.map fun p => (p.1, s.ev p.2)) (parts.map fun (p : Nat × Operand) => (p.1, a.eval p.2)).toList (List.replicate len ei.z).flatten
    ((Array.range (len * ei.n)).map (z.cells[· % z.cells.size]!)) cs hp.1 hp.2 (by rw [flat_len (m := ei.n) (by intro cs hcs; rw [(List.mem_replicate.1 hcs).2]; exact hzn)]; simp) (fun j x v hx hv => by
      have hj : j < len * ei.n := by
        have := (List.getElem?_eq_some_iff.1 hx).1
        rw [flat_len (m := ei.n) (by intro cs hcs; rw [(List.mem_replicate.1 hcs).2]; exact hzn)] at this
        simpa using this
      rw [rep_flat _ _ _ (by rw [hzn]; exact hj), hzn] at hx
      rw [Array.getElem?_map] at hv
      have : (Array.range (len * ei.n))[j]? = some j := by simp [hj]
      rw [this] at hv
      have hlt : j % ei.n < z.cells.size := by rw [← hzl, hzn]; exact Nat.mod_lt _ (by omega)
      have hv' : z.cells.toList[j % ei.n]? = some v := by
        rw [Array.getElem?_toList, Array.getElem?_eq_getElem hlt]
        simp only [Option.map_some, ← hzl, hzn] at hv
        rw [getElem!_pos z.cells _ hlt] at hv
        exact hv
      have := hzr.2 _ x v hx hv'
      exact ⟨this.2, .pure this.1⟩) hf
  have hpos : ¬ len * ei.n = 0 := by rw [h1]; omega
  refine ⟨.slice (some ⟨W.heap.size, 0, none⟩) len len, us.toList, e, len, ?_, fun μ' σ' hst hσ hμ => ⟨⟨W.heap.size, len, us.toList, rfl, heap_alloc_new W _, by simp [k2], fun j x v hx hv => ?_⟩, .ref id _ (.sl 0 len len) _ (by rw [hσ]; exact Nat.le_refl _) rfl fun bd hbd => ⟨W.heap.size, len, hμ, rfl⟩⟩⟩
  · have e3 : us.toList.toArray = us := by simp
    have hrun := run_buildSlice (P := P) W t e len (parts.map fun (p : Nat × Operand) => (p.1, a.eval p.2)) us inf z (ht.slice hk) q1 q6 (by rw [q3, h1]; omega) (by rw [q3]; exact hpos) (by rw [q3]; exact k1)
    simp only [execOp, ho, Sem.run_bind, hrun, Result.andThen_ok, Sem.run_pure, e3]
  · obtain ⟨r1, r2⟩ := k3 j x v hx (by simpa using hv)
    exact ⟨r1, r2.stp hs.inv hst⟩
theorem op_indexRef (k : Nat) {t e id ep n cap ty : Nat} {ti ei : TI} {x i : Operand} {kd : IntKind} {cs : List AV} (ho : o.op = .indexAddr t x i) (ht : TiOk P t ti) (hk : ti.k = .slice e) (he : TiOk P e ei) (h1 : ei.n = 1) (hx : s.ev x = .ref id ep (.sl 0 n cap)) (hid : s.σ id = ⟨ep, some (.box ty cs)⟩) (hi : s.ev i = .i kd (k : Int)) (hlt : k < n) :
  OpLoc P N o s ⟨.own id ep k, [], [id]⟩ := by
 refine oploc_val [id] _ fun s' W F μ a g1 g2 hs => ?_
 have hid' := (g2 id (by simp)).trans hid
 have ex := hs.ev x
 rw [g1 x (by rw [ho]; simp [Op.operands]), hx] at ex
 have ei' := hs.ev i
 rw [g1 i (by rw [ho]; simp [Op.operands]), hi] at ei'
 obtain ⟨b, c, hm, hv⟩ := (Rel.ref' ex).2.2 _ hid'
 have hcond : (0 : Int) ≤ (k : Int) ∧ (k : Int) < (n : Int) := by omega
 refine ⟨.pointer (some ⟨b, k, none⟩), ?_, .own id ep k _ (by rw [hid']; exact Nat.le_refl _) rfl fun bd hbd => ⟨b, c, hm, rfl⟩⟩
 have h0 : (0 : Nat) + k * ei.n = k := by rw [h1]; omega
 simp only [execOp, ho, Instr.indexAt, hv, RK.val, ei'.i', asIntOf, Sem.run_bind, Sem.run_pure, Result.andThen_ok, run_underlying (ht.slice hk), if_pos hcond, he.size, Int.toNat_natCast, ca_ptr (W := W), h0]
end
end Go.Proofs.YtahjjfhjjbgjaaaGreat.Sm
end
section
namespace Go.Proofs.YtahjjfhjjbgjaaaGreat.Sm
open Go.RowKit
def lnCube : Cb := ⟨⟨0, 1⟩, ⟨0, 1⟩⟩
def lnDrop : Rl := ⟨0, Cb.zero, ⟨1, 0, 0, Cb.zero⟩⟩
def lnR0 : List Rl := [⟨1, lnCube, ⟨3, 1, 0, Cb.zero⟩⟩, lnDrop]
def lnR1 : List Rl := [⟨1, lnCube, ⟨2, 1, 0, Cb.zero⟩⟩, lnDrop]
def lnPorts : List (List Pt) := [[⟨1, 0, 0, 0, 0⟩, ⟨2, 0, 1, 0, 1⟩], [⟨2, 0, 0, 1, 1⟩, ⟨1, 0, 0, 0, 0⟩]]
def lineC : Cf := ⟨⟨lnPorts⟩, ⟨1, [], []⟩, [[lnR0], [lnR1]]⟩
def lnB : List (Nat × SB) := [(300, ⟨0, some (.box 57 [.ref 301 0 (.sl 0 1 1), .ref 302 0 (.sl 0 1 1)])⟩), (301, ⟨0, some (.box 58 [.row 24 0 0 2])⟩), (302, ⟨0, some (.box 58 [.row 30 0 0 2])⟩), (24, ⟨0, some (.row 54 12 (lnR0.map cRl))⟩), (30, ⟨0, some (.row 54 12 (lnR1.map cRl))⟩), (12, ⟨0, some (.row 111 1 (lnPorts.map cPts))⟩)]
def lnV : AV := .agg [.row 12 0 0 2, .i .i64 1, .sl [], .sl [], .ref 300 0 (.sl 0 2 2)]
def RmL (π : List (Nat × Nat)) (σ σ' : Sto) : List AV → List AV → Prop
 | [], [] => True
 | x :: xs, y :: ys => (Rm π σ σ' x y ∧ y.one = true) ∧ RmL π σ σ' xs ys
 | _, _ => False
theorem RmL.ok {π : List (Nat × Nat)} {σ σ' : Sto} : ∀ {xs ys : List AV}, RmL π σ σ' xs ys → ys.length = xs.length ∧ ∀ (j : Nat) (x y : AV), xs[j]? = some x → ys[j]? = some y → Rm π σ σ' x y ∧ y.one = true
 | [], [], _ => ⟨rfl, fun j x y h => by simp at h⟩
 | x :: xs, y :: ys, h => by
  obtain ⟨h1, h2⟩ := h
  obtain ⟨g1, g2⟩ := RmL.ok h2
  refine ⟨by rw [List.length_cons, List.length_cons, g1], fun j a b ha hb => ?_⟩
  cases j with
  | zero =>
   obtain rfl : x = a := by simpa using ha
   obtain rfl : y = b := by simpa using hb
   exact h1
  | succ j => exact g2 j a b (by simpa using ha) (by simpa using hb)
 | [], y :: ys, h => h.elim
 | x :: xs, [], h => h.elim
theorem Rm.aggL {π : List (Nat × Nat)} {σ σ' : Sto} {z : AV} {xs ys : List AV} (e : z = .agg xs) (h : RmL π σ σ' xs ys) : Rm π σ σ' z (.agg ys) := by
 subst e
 obtain ⟨g1, g2⟩ := h.ok
 refine .agg g1 (fun j y hy => ?_) fun j x y hx hy => (g2 j x y hx hy).1
 obtain ⟨x, hx⟩ : ∃ x, xs[j]? = some x := ⟨_, List.getElem?_eq_getElem (by rw [← g1]; exact (List.getElem?_eq_some_iff.1 hy).1)⟩
 exact (g2 j x y hx hy).2
theorem Rm.refIs {π : List (Nat × Nat)} {σ σ' : Sto} {x : AV} {id id' ep ep' : Nat} {k : RK} {bd bd' : Body} (e : x = .ref id ep k) (hm : lkP π id = some id') (h : σ id = ⟨ep, some bd⟩) (h' : σ' id' = ⟨ep', some bd'⟩) : Rm π σ σ' x (.ref id' ep' k) := e ▸ .ref (lkP_ok hm) h h'
theorem m_line28 (q : Nat → Option (Nat × Nat)) : MDoes Tryz.prog 54 [] (gl q [] []) lnV (gl q [] lnB) := by
 refine MDoes.of_body Tryz.func54 rfl (by kernel_rfl) rfl rfl ?_
 skip;(repeat(first|(with_reducible first|apply wA|apply wB|apply wC|(apply wD;first|(refine wE ⟨?_,?_⟩;· kernel_rfl)|apply wE))))
 refine wF ?_;refine wH rfl ?_;(repeat(first|(with_reducible first|apply wA|apply wB|apply wC|(apply wD;first|(refine wE ⟨?_,?_⟩;· kernel_rfl)|apply wE))))
 refine wF ?_;refine wH rfl ?_;(repeat(first|(with_reducible first|apply wA|apply wB|apply wC|(apply wD;first|(refine wE ⟨?_,?_⟩;· kernel_rfl)|apply wE))))
 refine wF ?_;refine wH rfl ?_;(repeat(first|(with_reducible first|apply wA|apply wB|apply wC|(apply wD;first|(refine wE ⟨?_,?_⟩;· kernel_rfl)|apply wE))))
 refine wF ?_;refine wH rfl ?_;(repeat(first|(with_reducible first|apply wA|apply wB|apply wC|(apply wD;first|(refine wE ⟨?_,?_⟩;· kernel_rfl)|apply wE))))
 refine wF ?_;refine wH rfl ?_;(repeat(first|(with_reducible first|apply wA|apply wB|apply wC|(apply wD;first|(refine wE ⟨?_,?_⟩;· kernel_rfl)|apply wE))))
 refine AW.text ?_
 refine RG.runG ty_ok 0 5 rfl ?_
 refine RG.opS rfl (op_buildRef (id := 301) rfl (tab_ok ty_ok rfl) rfl (tab_ok ty_ok rfl) rfl (by decide) rfl rfl rfl rfl rfl) rfl ?_
 refine RG.runG ty_ok 0 5 rfl ?_
 refine RG.opS rfl (op_buildRef (id := 302) rfl (tab_ok ty_ok rfl) rfl (tab_ok ty_ok rfl) rfl (by decide) rfl rfl rfl rfl rfl) rfl ?_
 refine RG.opS rfl (op_buildRef (id := 300) rfl (tab_ok ty_ok rfl) rfl (tab_ok ty_ok rfl) rfl (by decide) rfl rfl rfl rfl rfl) rfl ?_
 refine wH rfl ?_;(repeat(first|(with_reducible first|apply wA|apply wB|apply wC|(apply wD;first|(refine wE ⟨?_,?_⟩;· kernel_rfl)|apply wE))|((with_reducible first|apply wF|apply wG);refine wH rfl ?_)))
 refine AW.ret (retMA ty_ok rfl rfl (Rm.aggL rfl ⟨⟨Rm.rowIs rfl rfl rfl rfl, rfl⟩, ⟨Rm.is rfl rfl, rfl⟩, ⟨.nil, rfl⟩, ⟨.nil, rfl⟩, ⟨Rm.refIs rfl rfl rfl rfl, rfl⟩, trivial⟩) ⟨.boxL rfl ⟨Rn.refIs rfl rfl rfl, Rn.refIs rfl rfl rfl, trivial⟩ rfl, .boxL rfl ⟨Rn.rowIs rfl rfl rfl, trivial⟩ rfl, .boxL rfl ⟨Rn.rowIs rfl rfl rfl, trivial⟩ rfl, .row rfl rfl, .row rfl rfl, .row rfl rfl, trivial⟩)
end Go.Proofs.YtahjjfhjjbgjaaaGreat.Sm
end
section
namespace Go.Proofs.YtahjjfhjjbgjaaaGreat.Sm
open Go.RowKit
theorem looks_of {c : Cf} (h : ∀ tb ∈ c.tables, ∀ l ∈ tb, Falls l ∧ l.length ≤ 12) : LooksOk c := by
 intro n t
 have h0 : LookOk [] := look_falls (fun k x y h => by simp at h) (Nat.zero_le _)
 rw [tabOf, List.getD_eq_getElem?_getD, List.getD_eq_getElem?_getD]
 cases h1 : c.tables[n]? with
 | none => exact h0
 | some tb =>
  show LookOk (tb[t]?.getD [])
  cases h2 : tb[t]? with
  | none => exact h0
  | some l =>
   obtain ⟨g1, g2⟩ := h tb (List.mem_of_getElem? h1) l (List.mem_of_getElem? h2)
   exact look_falls g1 g2
theorem falls0 : Falls lnR0 := by
 intro k x y hx hy
 match k with
 | 0 =>
  obtain rfl := Option.some.inj hx
  obtain rfl := Option.some.inj hy
  decide
 | k + 1 => simp [lnR0] at hy
theorem falls1 : Falls lnR1 := by
 intro k x y hx hy
 match k with
 | 0 =>
  obtain rfl := Option.some.inj hx
  obtain rfl := Option.some.inj hy
  decide
 | k + 1 => simp [lnR1] at hy
theorem lineC_looks : LooksOk lineC := looks_of (by
 intro tb htb l hl
 simp only [lineC, List.mem_cons, List.not_mem_nil, or_false] at htb
 rcases htb with rfl | rfl
 ·simp only [List.mem_cons, List.not_mem_nil, or_false] at hl
  subst hl
  exact ⟨falls0, by decide⟩
 ·simp only [List.mem_cons, List.not_mem_nil, or_false] at hl
  subst hl
  exact ⟨falls1, by decide⟩)
end Go.Proofs.YtahjjfhjjbgjaaaGreat.Sm
end
section
namespace Go.Proofs.YtahjjfhjjbgjaaaGreat.Sm
open Go.RowKit
theorem small_of {c : Cf} (h : c.tables.all (fun t => Nat.ble t.flatten.length 1000) = true) : c.Small := fun t ht => by
 have := Nat.le_of_ble_eq_true (List.all_eq_true.1 h t ht)
 omega
end Go.Proofs.YtahjjfhjjbgjaaaGreat.Sm
end
section
namespace Go.Proofs.YtahjjfhjjbgjaaaGreat.Sm
open Go.RowKit
def Hop.zero : Hop := ⟨0, 0, 0, Hd.zero⟩
end Go.Proofs.YtahjjfhjjbgjaaaGreat.Sm
end
section
namespace Go.Proofs.YtahjjfhjjbgjaaaGreat.Sm
open Go.RowKit
end Go.Proofs.YtahjjfhjjbgjaaaGreat.Sm
end
section
namespace Go.Proofs.YtahjjfhjjbgjaaaGreat.Sm
open Go.RowKit
end Go.Proofs.YtahjjfhjjbgjaaaGreat.Sm
end
section
namespace Go.Proofs.YtahjjfhjjbgjaaaGreat.Sm
open Go.RowKit
end Go.Proofs.YtahjjfhjjbgjaaaGreat.Sm
end
section
namespace Go.Proofs.YtahjjfhjjbgjaaaGreat.Sm
open Go.RowKit
end Go.Proofs.YtahjjfhjjbgjaaaGreat.Sm
end
section
namespace Go.Proofs.YtahjjfhjjbgjaaaGreat.Sm
open Go.RowKit
end Go.Proofs.YtahjjfhjjbgjaaaGreat.Sm
end
section
namespace Go.Proofs.YtahjjfhjjbgjaaaGreat.Sm
open Go.RowKit
theorem eq_len {α : Type} [DecidableEq α] {a b : List α} (h : ¬ a.length = b.length) : decide (a = b) = false := decide_eq_false fun e => h (congrArg List.length e)
theorem eq_step {α : Type} [DecidableEq α] {x y : α} {a b : List α} : decide (x :: a = y :: b) = (decide (x = y) && decide (a = b)) := by
 rw [Bool.eq_iff_iff]; simp
theorem d_Equal_Pr (a b : List (Int × Int)) (q : Bool) (hq : decide (a = b) = q) : PDoes Tryz.prog 145 [.sl (a.map cPr), .sl (b.map cPr)] (.b q) := by
  refine PDoes.of_bodyN Tryz.func145 rfl (by kernel_rfl) rfl rfl ?_
  have la : (a.map cPr).length = a.length := List.length_map ..
  have lb : (b.map cPr).length = b.length := List.length_map ..
  skip;(repeat(first|(with_reducible first|apply wA|apply wB|apply wC|(apply wD;first|(refine wE ⟨?_,?_⟩;· kernel_rfl)|apply wE))|((with_reducible first|apply wF|apply wG);refine wH rfl ?_)))
  refine AW.cond rfl (fun h => ?_) (fun h => ?_)
  · have h : ¬ a.length = b.length := by simp at h; omega
    rw [eq_len h] at hq
    skip;(repeat(first|(with_reducible first|apply wA|apply wB|apply wC|(apply wD;first|(refine wE ⟨?_,?_⟩;· kernel_rfl)|apply wE))|((with_reducible first|apply wF|apply wG);refine wH rfl ?_)))
    refine AW.ret (retQA ty_ok rfl rfl rfl ?_)
    exact congrArg AV.b hq
  have h : a.length = b.length := by simp at h; omega
  skip;(repeat(first|(with_reducible first|apply wA|apply wB|apply wC|(apply wD;first|(refine wE ⟨?_,?_⟩;· kernel_rfl)|apply wE))|((with_reducible first|apply wF|apply wG);refine wH rfl ?_)))
  refine AW.lens 0 rfl fun hm => ?_
  rw [List.length_map] at hm
  refine AW.loopL (ι := Nat) (fun k => [(0, .sl (a.map cPr)), (1, .sl (b.map cPr)), (12, .i .i64 (a.map cPr).length), (13, .i .i64 (k : Nat))]) (fun _ => []) (fun k => k ≤ a.length ∧ decide (a.drop k = b.drop k) = q) (fun k => a.length - k) 0 ⟨Nat.zero_le _, hq⟩ (by repeat(first|exact trivial|refine ⟨rI rfl rfl,?_⟩|refine ⟨rO rfl rfl rfl,?_⟩|refine ⟨rR rfl rfl rfl,?_⟩|refine ⟨bR rfl rfl,?_⟩|refine ⟨bS rfl rfl rfl,?_⟩)) trivial fun k hk => ?_
  clear hq
  obtain ⟨hk, hf⟩ := hk
  skip;(repeat(first|(with_reducible first|apply wA|apply wB|apply wC|(apply wD;first|(refine wE ⟨?_,?_⟩;· kernel_rfl)|apply wE))|((with_reducible first|apply wF|apply wG);refine wH rfl ?_)))
  refine AW.cond rfl (fun h1 => ?_) (fun h1 => ?_)
  rotate_left
  · have h' : ¬ k < a.length := by simpa using h1
    obtain rfl : k = a.length := by omega
    rw [List.drop_length, h, List.drop_length] at hf
    skip;(repeat(first|(with_reducible first|apply wA|apply wB|apply wC|(apply wD;first|(refine wE ⟨?_,?_⟩;· kernel_rfl)|apply wE))|((with_reducible first|apply wF|apply wG);refine wH rfl ?_)))
    refine AW.exit ?_; refine Eq.mpr (if_pos rfl) ?_; skip;(repeat(first|(with_reducible first|apply wA|apply wB|apply wC|(apply wD;first|(refine wE ⟨?_,?_⟩;· kernel_rfl)|apply wE))|((with_reducible first|apply wF|apply wG);refine wH rfl ?_)))
    refine AW.ret (retQA ty_ok rfl rfl rfl ?_)
    exact congrArg AV.b hf
  have h' : k < a.length := by simpa using h1
  have h'' : k < b.length := by omega
  rw [List.drop_eq_getElem_cons h', List.drop_eq_getElem_cons h'', eq_step] at hf
  have hax : (a.map cPr)[k]? = some (cPr a[k]) := by rw [List.getElem?_map, List.getElem?_eq_getElem h']; rfl
  have hbx : (b.map cPr)[k]? = some (cPr b[k]) := by rw [List.getElem?_map, List.getElem?_eq_getElem h'']; rfl
  generalize a[k] = x at hf hax
  generalize b[k] = y at hf hbx
  skip;(repeat(first|(with_reducible first|apply wA|apply wB|apply wC|(apply wD;first|(refine wE ⟨?_,?_⟩;· kernel_rfl)|apply wE))|((with_reducible first|apply wF|apply wG);refine wH rfl ?_)))
  refine RG.opS rfl (op_index rfl (tab_ok ty_ok rfl) rfl (tab_ok ty_ok rfl) rfl rfl hax rfl) rfl ?_
  refine wH rfl ?_
  refine RG.opS rfl (op_index rfl (tab_ok ty_ok rfl) rfl (tab_ok ty_ok rfl) rfl rfl hbx rfl) rfl ?_
  refine wH rfl ?_
  by_cases e : x = y
  · rw [decide_eq_true e, Bool.true_and] at hf
    refine RG.opS rfl (op_neG rfl ty_ok (by kernel_rfl) (by kernel_rfl) rfl rfl (eq_Pr x y) (congrArg Bool.not (decide_eq_true e))) rfl ?_
    refine wH rfl ?_;(repeat(first|(with_reducible first|apply wA|apply wB|apply wC|(apply wD;first|(refine wE ⟨?_,?_⟩;· kernel_rfl)|apply wE))|((with_reducible first|apply wF|apply wG);refine wH rfl ?_))); refine AW.condF rfl ?_; skip;(repeat(first|(with_reducible first|apply wA|apply wB|apply wC|(apply wD;first|(refine wE ⟨?_,?_⟩;· kernel_rfl)|apply wE))|((with_reducible first|apply wF|apply wG);refine wH rfl ?_)))
    exact ⟨k + 1, ⟨⟨h', hf⟩, by omega⟩, ⟨rI rfl rfl, rI rfl rfl, rI rfl rfl, rI (i64_next h' hm) rfl, trivial⟩, trivial⟩
  · rw [decide_eq_false e] at hf
    refine RG.opS rfl (op_neG rfl ty_ok (by kernel_rfl) (by kernel_rfl) rfl rfl (eq_Pr x y) (congrArg Bool.not (decide_eq_false e))) rfl ?_
    refine wH rfl ?_;(repeat(first|(with_reducible first|apply wA|apply wB|apply wC|(apply wD;first|(refine wE ⟨?_,?_⟩;· kernel_rfl)|apply wE))|((with_reducible first|apply wF|apply wG);refine wH rfl ?_))); refine AW.condT rfl ?_; skip;(repeat(first|(with_reducible first|apply wA|apply wB|apply wC|(apply wD;first|(refine wE ⟨?_,?_⟩;· kernel_rfl)|apply wE))|((with_reducible first|apply wF|apply wG);refine wH rfl ?_)))
    refine AW.ret (retQA ty_ok rfl rfl rfl ?_)
    exact congrArg AV.b hf
theorem d_Equal_Wy (a b : List (Wy)) (q : Bool) (hq : decide (a = b) = q) : PDoes Tryz.prog 146 [.sl (a.map cWy), .sl (b.map cWy)] (.b q) := by
  refine PDoes.of_bodyN Tryz.func146 rfl (by kernel_rfl) rfl rfl ?_
  have la : (a.map cWy).length = a.length := List.length_map ..
  have lb : (b.map cWy).length = b.length := List.length_map ..
  skip;(repeat(first|(with_reducible first|apply wA|apply wB|apply wC|(apply wD;first|(refine wE ⟨?_,?_⟩;· kernel_rfl)|apply wE))|((with_reducible first|apply wF|apply wG);refine wH rfl ?_)))
  refine AW.cond rfl (fun h => ?_) (fun h => ?_)
  · have h : ¬ a.length = b.length := by simp at h; omega
    rw [eq_len h] at hq
    skip;(repeat(first|(with_reducible first|apply wA|apply wB|apply wC|(apply wD;first|(refine wE ⟨?_,?_⟩;· kernel_rfl)|apply wE))|((with_reducible first|apply wF|apply wG);refine wH rfl ?_)))
    refine AW.ret (retQA ty_ok rfl rfl rfl ?_)
    exact congrArg AV.b hq
  have h : a.length = b.length := by simp at h; omega
  skip;(repeat(first|(with_reducible first|apply wA|apply wB|apply wC|(apply wD;first|(refine wE ⟨?_,?_⟩;· kernel_rfl)|apply wE))|((with_reducible first|apply wF|apply wG);refine wH rfl ?_)))
  refine AW.lens 0 rfl fun hm => ?_
  rw [List.length_map] at hm
  refine AW.loopL (ι := Nat) (fun k => [(0, .sl (a.map cWy)), (1, .sl (b.map cWy)), (12, .i .i64 (a.map cWy).length), (13, .i .i64 (k : Nat))]) (fun _ => []) (fun k => k ≤ a.length ∧ decide (a.drop k = b.drop k) = q) (fun k => a.length - k) 0 ⟨Nat.zero_le _, hq⟩ (by repeat(first|exact trivial|refine ⟨rI rfl rfl,?_⟩|refine ⟨rO rfl rfl rfl,?_⟩|refine ⟨rR rfl rfl rfl,?_⟩|refine ⟨bR rfl rfl,?_⟩|refine ⟨bS rfl rfl rfl,?_⟩)) trivial fun k hk => ?_
  clear hq
  obtain ⟨hk, hf⟩ := hk
  skip;(repeat(first|(with_reducible first|apply wA|apply wB|apply wC|(apply wD;first|(refine wE ⟨?_,?_⟩;· kernel_rfl)|apply wE))|((with_reducible first|apply wF|apply wG);refine wH rfl ?_)))
  refine AW.cond rfl (fun h1 => ?_) (fun h1 => ?_)
  rotate_left
  · have h' : ¬ k < a.length := by simpa using h1
    obtain rfl : k = a.length := by omega
    rw [List.drop_length, h, List.drop_length] at hf
    skip;(repeat(first|(with_reducible first|apply wA|apply wB|apply wC|(apply wD;first|(refine wE ⟨?_,?_⟩;· kernel_rfl)|apply wE))|((with_reducible first|apply wF|apply wG);refine wH rfl ?_)))
    refine AW.exit ?_; refine Eq.mpr (if_pos rfl) ?_; skip;(repeat(first|(with_reducible first|apply wA|apply wB|apply wC|(apply wD;first|(refine wE ⟨?_,?_⟩;· kernel_rfl)|apply wE))|((with_reducible first|apply wF|apply wG);refine wH rfl ?_)))
    refine AW.ret (retQA ty_ok rfl rfl rfl ?_)
    exact congrArg AV.b hf
  have h' : k < a.length := by simpa using h1
  have h'' : k < b.length := by omega
  rw [List.drop_eq_getElem_cons h', List.drop_eq_getElem_cons h'', eq_step] at hf
  have hax : (a.map cWy)[k]? = some (cWy a[k]) := by rw [List.getElem?_map, List.getElem?_eq_getElem h']; rfl
  have hbx : (b.map cWy)[k]? = some (cWy b[k]) := by rw [List.getElem?_map, List.getElem?_eq_getElem h'']; rfl
  generalize a[k] = x at hf hax
  generalize b[k] = y at hf hbx
  skip;(repeat(first|(with_reducible first|apply wA|apply wB|apply wC|(apply wD;first|(refine wE ⟨?_,?_⟩;· kernel_rfl)|apply wE))|((with_reducible first|apply wF|apply wG);refine wH rfl ?_)))
  refine RG.opS rfl (op_index rfl (tab_ok ty_ok rfl) rfl (tab_ok ty_ok rfl) rfl rfl hax rfl) rfl ?_
  refine wH rfl ?_
  refine RG.opS rfl (op_index rfl (tab_ok ty_ok rfl) rfl (tab_ok ty_ok rfl) rfl rfl hbx rfl) rfl ?_
  refine wH rfl ?_
  by_cases e : x = y
  · rw [decide_eq_true e, Bool.true_and] at hf
    refine RG.opS rfl (op_neG rfl ty_ok (by kernel_rfl) (by kernel_rfl) rfl rfl (eq_Wy x y) (congrArg Bool.not (decide_eq_true e))) rfl ?_
    refine wH rfl ?_;(repeat(first|(with_reducible first|apply wA|apply wB|apply wC|(apply wD;first|(refine wE ⟨?_,?_⟩;· kernel_rfl)|apply wE))|((with_reducible first|apply wF|apply wG);refine wH rfl ?_))); refine AW.condF rfl ?_; skip;(repeat(first|(with_reducible first|apply wA|apply wB|apply wC|(apply wD;first|(refine wE ⟨?_,?_⟩;· kernel_rfl)|apply wE))|((with_reducible first|apply wF|apply wG);refine wH rfl ?_)))
    exact ⟨k + 1, ⟨⟨h', hf⟩, by omega⟩, ⟨rI rfl rfl, rI rfl rfl, rI rfl rfl, rI (i64_next h' hm) rfl, trivial⟩, trivial⟩
  · rw [decide_eq_false e] at hf
    refine RG.opS rfl (op_neG rfl ty_ok (by kernel_rfl) (by kernel_rfl) rfl rfl (eq_Wy x y) (congrArg Bool.not (decide_eq_false e))) rfl ?_
    refine wH rfl ?_;(repeat(first|(with_reducible first|apply wA|apply wB|apply wC|(apply wD;first|(refine wE ⟨?_,?_⟩;· kernel_rfl)|apply wE))|((with_reducible first|apply wF|apply wG);refine wH rfl ?_))); refine AW.condT rfl ?_; skip;(repeat(first|(with_reducible first|apply wA|apply wB|apply wC|(apply wD;first|(refine wE ⟨?_,?_⟩;· kernel_rfl)|apply wE))|((with_reducible first|apply wF|apply wG);refine wH rfl ?_)))
    refine AW.ret (retQA ty_ok rfl rfl rfl ?_)
    exact congrArg AV.b hf
theorem d_Equal_Pt (a b : List (Pt)) (q : Bool) (hq : decide (a = b) = q) : PDoes Tryz.prog 174 [.sl (a.map cPt), .sl (b.map cPt)] (.b q) := by
  refine PDoes.of_bodyN Tryz.func174 rfl (by kernel_rfl) rfl rfl ?_
  have la : (a.map cPt).length = a.length := List.length_map ..
  have lb : (b.map cPt).length = b.length := List.length_map ..
  skip;(repeat(first|(with_reducible first|apply wA|apply wB|apply wC|(apply wD;first|(refine wE ⟨?_,?_⟩;· kernel_rfl)|apply wE))|((with_reducible first|apply wF|apply wG);refine wH rfl ?_)))
  refine AW.cond rfl (fun h => ?_) (fun h => ?_)
  · have h : ¬ a.length = b.length := by simp at h; omega
    rw [eq_len h] at hq
    skip;(repeat(first|(with_reducible first|apply wA|apply wB|apply wC|(apply wD;first|(refine wE ⟨?_,?_⟩;· kernel_rfl)|apply wE))|((with_reducible first|apply wF|apply wG);refine wH rfl ?_)))
    refine AW.ret (retQA ty_ok rfl rfl rfl ?_)
    exact congrArg AV.b hq
  have h : a.length = b.length := by simp at h; omega
  skip;(repeat(first|(with_reducible first|apply wA|apply wB|apply wC|(apply wD;first|(refine wE ⟨?_,?_⟩;· kernel_rfl)|apply wE))|((with_reducible first|apply wF|apply wG);refine wH rfl ?_)))
  refine AW.lens 0 rfl fun hm => ?_
  rw [List.length_map] at hm
  refine AW.loopL (ι := Nat) (fun k => [(0, .sl (a.map cPt)), (1, .sl (b.map cPt)), (12, .i .i64 (a.map cPt).length), (13, .i .i64 (k : Nat))]) (fun _ => []) (fun k => k ≤ a.length ∧ decide (a.drop k = b.drop k) = q) (fun k => a.length - k) 0 ⟨Nat.zero_le _, hq⟩ (by repeat(first|exact trivial|refine ⟨rI rfl rfl,?_⟩|refine ⟨rO rfl rfl rfl,?_⟩|refine ⟨rR rfl rfl rfl,?_⟩|refine ⟨bR rfl rfl,?_⟩|refine ⟨bS rfl rfl rfl,?_⟩)) trivial fun k hk => ?_
  clear hq
  obtain ⟨hk, hf⟩ := hk
  skip;(repeat(first|(with_reducible first|apply wA|apply wB|apply wC|(apply wD;first|(refine wE ⟨?_,?_⟩;· kernel_rfl)|apply wE))|((with_reducible first|apply wF|apply wG);refine wH rfl ?_)))
  refine AW.cond rfl (fun h1 => ?_) (fun h1 => ?_)
  rotate_left
  · have h' : ¬ k < a.length := by simpa using h1
    obtain rfl : k = a.length := by omega
    rw [List.drop_length, h, List.drop_length] at hf
    skip;(repeat(first|(with_reducible first|apply wA|apply wB|apply wC|(apply wD;first|(refine wE ⟨?_,?_⟩;· kernel_rfl)|apply wE))|((with_reducible first|apply wF|apply wG);refine wH rfl ?_)))
    refine AW.exit ?_; refine Eq.mpr (if_pos rfl) ?_; skip;(repeat(first|(with_reducible first|apply wA|apply wB|apply wC|(apply wD;first|(refine wE ⟨?_,?_⟩;· kernel_rfl)|apply wE))|((with_reducible first|apply wF|apply wG);refine wH rfl ?_)))
    refine AW.ret (retQA ty_ok rfl rfl rfl ?_)
    exact congrArg AV.b hf
  have h' : k < a.length := by simpa using h1
  have h'' : k < b.length := by omega
  rw [List.drop_eq_getElem_cons h', List.drop_eq_getElem_cons h'', eq_step] at hf
  have hax : (a.map cPt)[k]? = some (cPt a[k]) := by rw [List.getElem?_map, List.getElem?_eq_getElem h']; rfl
  have hbx : (b.map cPt)[k]? = some (cPt b[k]) := by rw [List.getElem?_map, List.getElem?_eq_getElem h'']; rfl
  generalize a[k] = x at hf hax
  generalize b[k] = y at hf hbx
  skip;(repeat(first|(with_reducible first|apply wA|apply wB|apply wC|(apply wD;first|(refine wE ⟨?_,?_⟩;· kernel_rfl)|apply wE))|((with_reducible first|apply wF|apply wG);refine wH rfl ?_)))
  refine RG.opS rfl (op_index rfl (tab_ok ty_ok rfl) rfl (tab_ok ty_ok rfl) rfl rfl hax rfl) rfl ?_
  refine wH rfl ?_
  refine RG.opS rfl (op_index rfl (tab_ok ty_ok rfl) rfl (tab_ok ty_ok rfl) rfl rfl hbx rfl) rfl ?_
  refine wH rfl ?_
  by_cases e : x = y
  · rw [decide_eq_true e, Bool.true_and] at hf
    refine RG.opS rfl (op_neG rfl ty_ok (by kernel_rfl) (by kernel_rfl) rfl rfl (eq_Pt x y) (congrArg Bool.not (decide_eq_true e))) rfl ?_
    refine wH rfl ?_;(repeat(first|(with_reducible first|apply wA|apply wB|apply wC|(apply wD;first|(refine wE ⟨?_,?_⟩;· kernel_rfl)|apply wE))|((with_reducible first|apply wF|apply wG);refine wH rfl ?_))); refine AW.condF rfl ?_; skip;(repeat(first|(with_reducible first|apply wA|apply wB|apply wC|(apply wD;first|(refine wE ⟨?_,?_⟩;· kernel_rfl)|apply wE))|((with_reducible first|apply wF|apply wG);refine wH rfl ?_)))
    exact ⟨k + 1, ⟨⟨h', hf⟩, by omega⟩, ⟨rI rfl rfl, rI rfl rfl, rI rfl rfl, rI (i64_next h' hm) rfl, trivial⟩, trivial⟩
  · rw [decide_eq_false e] at hf
    refine RG.opS rfl (op_neG rfl ty_ok (by kernel_rfl) (by kernel_rfl) rfl rfl (eq_Pt x y) (congrArg Bool.not (decide_eq_false e))) rfl ?_
    refine wH rfl ?_;(repeat(first|(with_reducible first|apply wA|apply wB|apply wC|(apply wD;first|(refine wE ⟨?_,?_⟩;· kernel_rfl)|apply wE))|((with_reducible first|apply wF|apply wG);refine wH rfl ?_))); refine AW.condT rfl ?_; skip;(repeat(first|(with_reducible first|apply wA|apply wB|apply wC|(apply wD;first|(refine wE ⟨?_,?_⟩;· kernel_rfl)|apply wE))|((with_reducible first|apply wF|apply wG);refine wH rfl ?_)))
    refine AW.ret (retQA ty_ok rfl rfl rfl ?_)
    exact congrArg AV.b hf
theorem d_Equal_Rl (a b : List (Rl)) (q : Bool) (hq : decide (a = b) = q) : PDoes Tryz.prog 176 [.sl (a.map cRl), .sl (b.map cRl)] (.b q) := by
  refine PDoes.of_bodyN Tryz.func176 rfl (by kernel_rfl) rfl rfl ?_
  have la : (a.map cRl).length = a.length := List.length_map ..
  have lb : (b.map cRl).length = b.length := List.length_map ..
  skip;(repeat(first|(with_reducible first|apply wA|apply wB|apply wC|(apply wD;first|(refine wE ⟨?_,?_⟩;· kernel_rfl)|apply wE))|((with_reducible first|apply wF|apply wG);refine wH rfl ?_)))
  refine AW.cond rfl (fun h => ?_) (fun h => ?_)
  · have h : ¬ a.length = b.length := by simp at h; omega
    rw [eq_len h] at hq
    skip;(repeat(first|(with_reducible first|apply wA|apply wB|apply wC|(apply wD;first|(refine wE ⟨?_,?_⟩;· kernel_rfl)|apply wE))|((with_reducible first|apply wF|apply wG);refine wH rfl ?_)))
    refine AW.ret (retQA ty_ok rfl rfl rfl ?_)
    exact congrArg AV.b hq
  have h : a.length = b.length := by simp at h; omega
  skip;(repeat(first|(with_reducible first|apply wA|apply wB|apply wC|(apply wD;first|(refine wE ⟨?_,?_⟩;· kernel_rfl)|apply wE))|((with_reducible first|apply wF|apply wG);refine wH rfl ?_)))
  refine AW.lens 0 rfl fun hm => ?_
  rw [List.length_map] at hm
  refine AW.loopL (ι := Nat) (fun k => [(0, .sl (a.map cRl)), (1, .sl (b.map cRl)), (12, .i .i64 (a.map cRl).length), (13, .i .i64 (k : Nat))]) (fun _ => []) (fun k => k ≤ a.length ∧ decide (a.drop k = b.drop k) = q) (fun k => a.length - k) 0 ⟨Nat.zero_le _, hq⟩ (by repeat(first|exact trivial|refine ⟨rI rfl rfl,?_⟩|refine ⟨rO rfl rfl rfl,?_⟩|refine ⟨rR rfl rfl rfl,?_⟩|refine ⟨bR rfl rfl,?_⟩|refine ⟨bS rfl rfl rfl,?_⟩)) trivial fun k hk => ?_
  clear hq
  obtain ⟨hk, hf⟩ := hk
  skip;(repeat(first|(with_reducible first|apply wA|apply wB|apply wC|(apply wD;first|(refine wE ⟨?_,?_⟩;· kernel_rfl)|apply wE))|((with_reducible first|apply wF|apply wG);refine wH rfl ?_)))
  refine AW.cond rfl (fun h1 => ?_) (fun h1 => ?_)
  rotate_left
  · have h' : ¬ k < a.length := by simpa using h1
    obtain rfl : k = a.length := by omega
    rw [List.drop_length, h, List.drop_length] at hf
    skip;(repeat(first|(with_reducible first|apply wA|apply wB|apply wC|(apply wD;first|(refine wE ⟨?_,?_⟩;· kernel_rfl)|apply wE))|((with_reducible first|apply wF|apply wG);refine wH rfl ?_)))
    refine AW.exit ?_; refine Eq.mpr (if_pos rfl) ?_; skip;(repeat(first|(with_reducible first|apply wA|apply wB|apply wC|(apply wD;first|(refine wE ⟨?_,?_⟩;· kernel_rfl)|apply wE))|((with_reducible first|apply wF|apply wG);refine wH rfl ?_)))
    refine AW.ret (retQA ty_ok rfl rfl rfl ?_)
    exact congrArg AV.b hf
  have h' : k < a.length := by simpa using h1
  have h'' : k < b.length := by omega
  rw [List.drop_eq_getElem_cons h', List.drop_eq_getElem_cons h'', eq_step] at hf
  have hax : (a.map cRl)[k]? = some (cRl a[k]) := by rw [List.getElem?_map, List.getElem?_eq_getElem h']; rfl
  have hbx : (b.map cRl)[k]? = some (cRl b[k]) := by rw [List.getElem?_map, List.getElem?_eq_getElem h'']; rfl
  generalize a[k] = x at hf hax
  generalize b[k] = y at hf hbx
  skip;(repeat(first|(with_reducible first|apply wA|apply wB|apply wC|(apply wD;first|(refine wE ⟨?_,?_⟩;· kernel_rfl)|apply wE))|((with_reducible first|apply wF|apply wG);refine wH rfl ?_)))
  refine RG.opS rfl (op_index rfl (tab_ok ty_ok rfl) rfl (tab_ok ty_ok rfl) rfl rfl hax rfl) rfl ?_
  refine wH rfl ?_
  refine RG.opS rfl (op_index rfl (tab_ok ty_ok rfl) rfl (tab_ok ty_ok rfl) rfl rfl hbx rfl) rfl ?_
  refine wH rfl ?_
  by_cases e : x = y
  · rw [decide_eq_true e, Bool.true_and] at hf
    refine RG.opS rfl (op_neG rfl ty_ok (by kernel_rfl) (by kernel_rfl) rfl rfl (eq_Rl x y) (congrArg Bool.not (decide_eq_true e))) rfl ?_
    refine wH rfl ?_;(repeat(first|(with_reducible first|apply wA|apply wB|apply wC|(apply wD;first|(refine wE ⟨?_,?_⟩;· kernel_rfl)|apply wE))|((with_reducible first|apply wF|apply wG);refine wH rfl ?_))); refine AW.condF rfl ?_; skip;(repeat(first|(with_reducible first|apply wA|apply wB|apply wC|(apply wD;first|(refine wE ⟨?_,?_⟩;· kernel_rfl)|apply wE))|((with_reducible first|apply wF|apply wG);refine wH rfl ?_)))
    exact ⟨k + 1, ⟨⟨h', hf⟩, by omega⟩, ⟨rI rfl rfl, rI rfl rfl, rI rfl rfl, rI (i64_next h' hm) rfl, trivial⟩, trivial⟩
  · rw [decide_eq_false e] at hf
    refine RG.opS rfl (op_neG rfl ty_ok (by kernel_rfl) (by kernel_rfl) rfl rfl (eq_Rl x y) (congrArg Bool.not (decide_eq_false e))) rfl ?_
    refine wH rfl ?_;(repeat(first|(with_reducible first|apply wA|apply wB|apply wC|(apply wD;first|(refine wE ⟨?_,?_⟩;· kernel_rfl)|apply wE))|((with_reducible first|apply wF|apply wG);refine wH rfl ?_))); refine AW.condT rfl ?_; skip;(repeat(first|(with_reducible first|apply wA|apply wB|apply wC|(apply wD;first|(refine wE ⟨?_,?_⟩;· kernel_rfl)|apply wE))|((with_reducible first|apply wF|apply wG);refine wH rfl ?_)))
    refine AW.ret (retQA ty_ok rfl rfl rfl ?_)
    exact congrArg AV.b hf
theorem d_EqualFunc_Pts (F : Nat) (H : ∀ x y : List Pt, PDoes Tryz.prog F [.sl (x.map cPt), .sl (y.map cPt)] (.b (decide (x = y)))) (a b : List (List Pt)) (q : Bool) (hq : decide (a = b) = q) : PDoes Tryz.prog 173 [.sl (a.map cPts), .sl (b.map cPts), .fn F [] []] (.b q) := by
  refine PDoes.of_bodyN Tryz.func173 rfl (by kernel_rfl) rfl rfl ?_
  have la : (a.map cPts).length = a.length := List.length_map ..
  have lb : (b.map cPts).length = b.length := List.length_map ..
  skip;(repeat(first|(with_reducible first|apply wA|apply wB|apply wC|(apply wD;first|(refine wE ⟨?_,?_⟩;· kernel_rfl)|apply wE))|((with_reducible first|apply wF|apply wG);refine wH rfl ?_)))
  refine AW.cond rfl (fun h => ?_) (fun h => ?_)
  · have h : ¬ a.length = b.length := by simp at h; omega
    rw [eq_len h] at hq
    skip;(repeat(first|(with_reducible first|apply wA|apply wB|apply wC|(apply wD;first|(refine wE ⟨?_,?_⟩;· kernel_rfl)|apply wE))|((with_reducible first|apply wF|apply wG);refine wH rfl ?_)))
    refine AW.ret (retQA ty_ok rfl rfl rfl ?_)
    exact congrArg AV.b hq
  have h : a.length = b.length := by simp at h; omega
  skip;(repeat(first|(with_reducible first|apply wA|apply wB|apply wC|(apply wD;first|(refine wE ⟨?_,?_⟩;· kernel_rfl)|apply wE))|((with_reducible first|apply wF|apply wG);refine wH rfl ?_)))
  refine AW.lens 0 rfl fun hm => ?_
  rw [List.length_map] at hm
  refine AW.loopL (ι := Nat) (fun k => [(1, .sl (b.map cPts)), (2, .fn F [] []), (15, .sl (a.map cPts)), (16, .i .i64 (a.map cPts).length), (17, .i .i64 (k : Nat))]) (fun _ => []) (fun k => k ≤ a.length ∧ decide (a.drop k = b.drop k) = q) (fun k => a.length - k) 0 ⟨Nat.zero_le _, hq⟩ ⟨rI rfl rfl, Rn.fnF rfl rfl, rI rfl rfl, rI rfl rfl, rI rfl rfl, trivial⟩ trivial fun k hk => ?_
  clear hq
  obtain ⟨hk, hf⟩ := hk
  skip;(repeat(first|(with_reducible first|apply wA|apply wB|apply wC|(apply wD;first|(refine wE ⟨?_,?_⟩;· kernel_rfl)|apply wE))|((with_reducible first|apply wF|apply wG);refine wH rfl ?_)))
  refine AW.cond rfl (fun h1 => ?_) (fun h1 => ?_)
  rotate_left
  · have h' : ¬ k < a.length := by simpa using h1
    obtain rfl : k = a.length := by omega
    rw [List.drop_length, h, List.drop_length] at hf
    skip;(repeat(first|(with_reducible first|apply wA|apply wB|apply wC|(apply wD;first|(refine wE ⟨?_,?_⟩;· kernel_rfl)|apply wE))|((with_reducible first|apply wF|apply wG);refine wH rfl ?_)))
    refine AW.exit ?_; refine Eq.mpr (if_pos rfl) ?_; skip;(repeat(first|(with_reducible first|apply wA|apply wB|apply wC|(apply wD;first|(refine wE ⟨?_,?_⟩;· kernel_rfl)|apply wE))|((with_reducible first|apply wF|apply wG);refine wH rfl ?_)))
    refine AW.ret (retQA ty_ok rfl rfl rfl ?_)
    exact congrArg AV.b hf
  have h' : k < a.length := by simpa using h1
  have h'' : k < b.length := by omega
  rw [List.drop_eq_getElem_cons h', List.drop_eq_getElem_cons h'', eq_step] at hf
  have hax : (a.map cPts)[k]? = some (cPts a[k]) := by rw [List.getElem?_map, List.getElem?_eq_getElem h']; rfl
  have hbx : (b.map cPts)[k]? = some (cPts b[k]) := by rw [List.getElem?_map, List.getElem?_eq_getElem h'']; rfl
  generalize a[k] = x at hf hax
  generalize b[k] = y at hf hbx
  skip;(repeat(first|(with_reducible first|apply wA|apply wB|apply wC|(apply wD;first|(refine wE ⟨?_,?_⟩;· kernel_rfl)|apply wE))|((with_reducible first|apply wF|apply wG);refine wH rfl ?_)))
  refine RG.opS rfl (op_index rfl (tab_ok ty_ok rfl) rfl (tab_ok ty_ok rfl) rfl rfl hax rfl) rfl ?_
  refine wH rfl ?_;(repeat(first|(with_reducible first|apply wA|apply wB|apply wC|(apply wD;first|(refine wE ⟨?_,?_⟩;· kernel_rfl)|apply wE))|((with_reducible first|apply wF|apply wG);refine wH rfl ?_)))
  refine RG.opS rfl (op_index rfl (tab_ok ty_ok rfl) rfl (tab_ok ty_ok rfl) rfl rfl hbx rfl) rfl ?_
  refine wH rfl ?_;(repeat(first|(with_reducible first|apply wA|apply wB|apply wC|(apply wD;first|(refine wE ⟨?_,?_⟩;· kernel_rfl)|apply wE))|((with_reducible first|apply wF|apply wG);refine wH rfl ?_)))
  have hx := H x y
  cases e : decide (x = y)
  · rw [e] at hf hx
    refine RG.callS rfl rfl rfl rfl rfl hx rfl rfl ?_; refine wH rfl ?_;(repeat(first|(with_reducible first|apply wA|apply wB|apply wC|(apply wD;first|(refine wE ⟨?_,?_⟩;· kernel_rfl)|apply wE))|((with_reducible first|apply wF|apply wG);refine wH rfl ?_)))
    refine AW.condT rfl ?_; skip;(repeat(first|(with_reducible first|apply wA|apply wB|apply wC|(apply wD;first|(refine wE ⟨?_,?_⟩;· kernel_rfl)|apply wE))|((with_reducible first|apply wF|apply wG);refine wH rfl ?_)))
    refine AW.ret (retQA ty_ok rfl rfl rfl ?_)
    exact congrArg AV.b hf
  · rw [e, Bool.true_and] at hf
    rw [e] at hx
    refine RG.callS rfl rfl rfl rfl rfl hx rfl rfl ?_; refine wH rfl ?_;(repeat(first|(with_reducible first|apply wA|apply wB|apply wC|(apply wD;first|(refine wE ⟨?_,?_⟩;· kernel_rfl)|apply wE))|((with_reducible first|apply wF|apply wG);refine wH rfl ?_)))
    refine AW.condF rfl ?_; skip;(repeat(first|(with_reducible first|apply wA|apply wB|apply wC|(apply wD;first|(refine wE ⟨?_,?_⟩;· kernel_rfl)|apply wE))|((with_reducible first|apply wF|apply wG);refine wH rfl ?_)))
    exact ⟨k + 1, ⟨⟨h', hf⟩, by omega⟩, ⟨rI rfl rfl, Rn.fnF rfl rfl, rI rfl rfl, rI rfl rfl, rI (i64_next h' hm) rfl, trivial⟩, trivial⟩
theorem d_EqualFunc_Rls (F : Nat) (H : ∀ x y : List Rl, PDoes Tryz.prog F [.sl (x.map cRl), .sl (y.map cRl)] (.b (decide (x = y)))) (a b : List (List Rl)) (q : Bool) (hq : decide (a = b) = q) : PDoes Tryz.prog 175 [.sl (a.map cRls), .sl (b.map cRls), .fn F [] []] (.b q) := by
  refine PDoes.of_bodyN Tryz.func175 rfl (by kernel_rfl) rfl rfl ?_
  have la : (a.map cRls).length = a.length := List.length_map ..
  have lb : (b.map cRls).length = b.length := List.length_map ..
  skip;(repeat(first|(with_reducible first|apply wA|apply wB|apply wC|(apply wD;first|(refine wE ⟨?_,?_⟩;· kernel_rfl)|apply wE))|((with_reducible first|apply wF|apply wG);refine wH rfl ?_)))
  refine AW.cond rfl (fun h => ?_) (fun h => ?_)
  · have h : ¬ a.length = b.length := by simp at h; omega
    rw [eq_len h] at hq
    skip;(repeat(first|(with_reducible first|apply wA|apply wB|apply wC|(apply wD;first|(refine wE ⟨?_,?_⟩;· kernel_rfl)|apply wE))|((with_reducible first|apply wF|apply wG);refine wH rfl ?_)))
    refine AW.ret (retQA ty_ok rfl rfl rfl ?_)
    exact congrArg AV.b hq
  have h : a.length = b.length := by simp at h; omega
  skip;(repeat(first|(with_reducible first|apply wA|apply wB|apply wC|(apply wD;first|(refine wE ⟨?_,?_⟩;· kernel_rfl)|apply wE))|((with_reducible first|apply wF|apply wG);refine wH rfl ?_)))
  refine AW.lens 0 rfl fun hm => ?_
  rw [List.length_map] at hm
  refine AW.loopL (ι := Nat) (fun k => [(1, .sl (b.map cRls)), (2, .fn F [] []), (15, .sl (a.map cRls)), (16, .i .i64 (a.map cRls).length), (17, .i .i64 (k : Nat))]) (fun _ => []) (fun k => k ≤ a.length ∧ decide (a.drop k = b.drop k) = q) (fun k => a.length - k) 0 ⟨Nat.zero_le _, hq⟩ ⟨rI rfl rfl, Rn.fnF rfl rfl, rI rfl rfl, rI rfl rfl, rI rfl rfl, trivial⟩ trivial fun k hk => ?_
  clear hq
  obtain ⟨hk, hf⟩ := hk
  skip;(repeat(first|(with_reducible first|apply wA|apply wB|apply wC|(apply wD;first|(refine wE ⟨?_,?_⟩;· kernel_rfl)|apply wE))|((with_reducible first|apply wF|apply wG);refine wH rfl ?_)))
  refine AW.cond rfl (fun h1 => ?_) (fun h1 => ?_)
  rotate_left
  · have h' : ¬ k < a.length := by simpa using h1
    obtain rfl : k = a.length := by omega
    rw [List.drop_length, h, List.drop_length] at hf
    skip;(repeat(first|(with_reducible first|apply wA|apply wB|apply wC|(apply wD;first|(refine wE ⟨?_,?_⟩;· kernel_rfl)|apply wE))|((with_reducible first|apply wF|apply wG);refine wH rfl ?_)))
    refine AW.exit ?_; refine Eq.mpr (if_pos rfl) ?_; skip;(repeat(first|(with_reducible first|apply wA|apply wB|apply wC|(apply wD;first|(refine wE ⟨?_,?_⟩;· kernel_rfl)|apply wE))|((with_reducible first|apply wF|apply wG);refine wH rfl ?_)))
    refine AW.ret (retQA ty_ok rfl rfl rfl ?_)
    exact congrArg AV.b hf
  have h' : k < a.length := by simpa using h1
  have h'' : k < b.length := by omega
  rw [List.drop_eq_getElem_cons h', List.drop_eq_getElem_cons h'', eq_step] at hf
  have hax : (a.map cRls)[k]? = some (cRls a[k]) := by rw [List.getElem?_map, List.getElem?_eq_getElem h']; rfl
  have hbx : (b.map cRls)[k]? = some (cRls b[k]) := by rw [List.getElem?_map, List.getElem?_eq_getElem h'']; rfl
  generalize a[k] = x at hf hax
  generalize b[k] = y at hf hbx
  skip;(repeat(first|(with_reducible first|apply wA|apply wB|apply wC|(apply wD;first|(refine wE ⟨?_,?_⟩;· kernel_rfl)|apply wE))|((with_reducible first|apply wF|apply wG);refine wH rfl ?_)))
  refine RG.opS rfl (op_index rfl (tab_ok ty_ok rfl) rfl (tab_ok ty_ok rfl) rfl rfl hax rfl) rfl ?_
  refine wH rfl ?_;(repeat(first|(with_reducible first|apply wA|apply wB|apply wC|(apply wD;first|(refine wE ⟨?_,?_⟩;· kernel_rfl)|apply wE))|((with_reducible first|apply wF|apply wG);refine wH rfl ?_)))
  refine RG.opS rfl (op_index rfl (tab_ok ty_ok rfl) rfl (tab_ok ty_ok rfl) rfl rfl hbx rfl) rfl ?_
  refine wH rfl ?_;(repeat(first|(with_reducible first|apply wA|apply wB|apply wC|(apply wD;first|(refine wE ⟨?_,?_⟩;· kernel_rfl)|apply wE))|((with_reducible first|apply wF|apply wG);refine wH rfl ?_)))
  have hx := H x y
  cases e : decide (x = y)
  · rw [e] at hf hx
    refine RG.callS rfl rfl rfl rfl rfl hx rfl rfl ?_; refine wH rfl ?_;(repeat(first|(with_reducible first|apply wA|apply wB|apply wC|(apply wD;first|(refine wE ⟨?_,?_⟩;· kernel_rfl)|apply wE))|((with_reducible first|apply wF|apply wG);refine wH rfl ?_)))
    refine AW.condT rfl ?_; skip;(repeat(first|(with_reducible first|apply wA|apply wB|apply wC|(apply wD;first|(refine wE ⟨?_,?_⟩;· kernel_rfl)|apply wE))|((with_reducible first|apply wF|apply wG);refine wH rfl ?_)))
    refine AW.ret (retQA ty_ok rfl rfl rfl ?_)
    exact congrArg AV.b hf
  · rw [e, Bool.true_and] at hf
    rw [e] at hx
    refine RG.callS rfl rfl rfl rfl rfl hx rfl rfl ?_; refine wH rfl ?_;(repeat(first|(with_reducible first|apply wA|apply wB|apply wC|(apply wD;first|(refine wE ⟨?_,?_⟩;· kernel_rfl)|apply wE))|((with_reducible first|apply wF|apply wG);refine wH rfl ?_)))
    refine AW.condF rfl ?_; skip;(repeat(first|(with_reducible first|apply wA|apply wB|apply wC|(apply wD;first|(refine wE ⟨?_,?_⟩;· kernel_rfl)|apply wE))|((with_reducible first|apply wF|apply wG);refine wH rfl ?_)))
    exact ⟨k + 1, ⟨⟨h', hf⟩, by omega⟩, ⟨rI rfl rfl, Rn.fnF rfl rfl, rI rfl rfl, rI rfl rfl, rI (i64_next h' hm) rfl, trivial⟩, trivial⟩
theorem d_alike_Pt (a b : List (List Pt)) (q : Bool) (hq : decide (a = b) = q) : PDoes Tryz.prog 144 [.sl (a.map cPts), .sl (b.map cPts)] (.b q) := by
 refine PDoes.of_bodyN Tryz.func144 rfl (by kernel_rfl) rfl rfl ?_
 skip;(repeat(first|(with_reducible first|apply wA|apply wB|apply wC|(apply wD;first|(refine wE ⟨?_,?_⟩;· kernel_rfl)|apply wE))|((with_reducible first|apply wF|apply wG);refine wH rfl ?_)))
 refine RG.callS rfl rfl rfl rfl rfl (d_EqualFunc_Pts 174 (fun x y => d_Equal_Pt x y _ rfl) a b q hq) rfl rfl ?_; refine wH rfl ?_;(repeat(first|(with_reducible first|apply wA|apply wB|apply wC|(apply wD;first|(refine wE ⟨?_,?_⟩;· kernel_rfl)|apply wE))|((with_reducible first|apply wF|apply wG);refine wH rfl ?_)))
 refine AW.ret (retQA ty_ok rfl rfl rfl ?_)
 rfl
theorem d_alike_Rl (a b : List (List Rl)) (q : Bool) (hq : decide (a = b) = q) : PDoes Tryz.prog 148 [.sl (a.map cRls), .sl (b.map cRls)] (.b q) := by
 refine PDoes.of_bodyN Tryz.func148 rfl (by kernel_rfl) rfl rfl ?_
 skip;(repeat(first|(with_reducible first|apply wA|apply wB|apply wC|(apply wD;first|(refine wE ⟨?_,?_⟩;· kernel_rfl)|apply wE))|((with_reducible first|apply wF|apply wG);refine wH rfl ?_)))
 refine RG.callS rfl rfl rfl rfl rfl (d_EqualFunc_Rls 176 (fun x y => d_Equal_Rl x y _ rfl) a b q hq) rfl rfl ?_; refine wH rfl ?_;(repeat(first|(with_reducible first|apply wA|apply wB|apply wC|(apply wD;first|(refine wE ⟨?_,?_⟩;· kernel_rfl)|apply wE))|((with_reducible first|apply wF|apply wG);refine wH rfl ?_)))
 refine AW.ret (retQA ty_ok rfl rfl rfl ?_)
 rfl
theorem d_EqualFunc_Tab (F : Nat) (H : ∀ x y : List (List Rl), PDoes Tryz.prog F [.sl (x.map cRls), .sl (y.map cRls)] (.b (decide (x = y)))) (a b : List (List (List Rl))) (q : Bool) (hq : decide (a = b) = q) : PDoes Tryz.prog 147 [.sl (a.map cTab), .sl (b.map cTab), .fn F [] []] (.b q) := by
  refine PDoes.of_bodyN Tryz.func147 rfl (by kernel_rfl) rfl rfl ?_
  have la : (a.map cTab).length = a.length := List.length_map ..
  have lb : (b.map cTab).length = b.length := List.length_map ..
  skip;(repeat(first|(with_reducible first|apply wA|apply wB|apply wC|(apply wD;first|(refine wE ⟨?_,?_⟩;· kernel_rfl)|apply wE))|((with_reducible first|apply wF|apply wG);refine wH rfl ?_)))
  refine AW.cond rfl (fun h => ?_) (fun h => ?_)
  · have h : ¬ a.length = b.length := by simp at h; omega
    rw [eq_len h] at hq
    skip;(repeat(first|(with_reducible first|apply wA|apply wB|apply wC|(apply wD;first|(refine wE ⟨?_,?_⟩;· kernel_rfl)|apply wE))|((with_reducible first|apply wF|apply wG);refine wH rfl ?_)))
    refine AW.ret (retQA ty_ok rfl rfl rfl ?_)
    exact congrArg AV.b hq
  have h : a.length = b.length := by simp at h; omega
  skip;(repeat(first|(with_reducible first|apply wA|apply wB|apply wC|(apply wD;first|(refine wE ⟨?_,?_⟩;· kernel_rfl)|apply wE))|((with_reducible first|apply wF|apply wG);refine wH rfl ?_)))
  refine AW.lens 0 rfl fun hm => ?_
  rw [List.length_map] at hm
  refine AW.loopL (ι := Nat) (fun k => [(1, .sl (b.map cTab)), (2, .fn F [] []), (15, .sl (a.map cTab)), (16, .i .i64 (a.map cTab).length), (17, .i .i64 (k : Nat))]) (fun _ => []) (fun k => k ≤ a.length ∧ decide (a.drop k = b.drop k) = q) (fun k => a.length - k) 0 ⟨Nat.zero_le _, hq⟩ ⟨rI rfl rfl, Rn.fnF rfl rfl, rI rfl rfl, rI rfl rfl, rI rfl rfl, trivial⟩ trivial fun k hk => ?_
  clear hq
  obtain ⟨hk, hf⟩ := hk
  skip;(repeat(first|(with_reducible first|apply wA|apply wB|apply wC|(apply wD;first|(refine wE ⟨?_,?_⟩;· kernel_rfl)|apply wE))|((with_reducible first|apply wF|apply wG);refine wH rfl ?_)))
  refine AW.cond rfl (fun h1 => ?_) (fun h1 => ?_)
  rotate_left
  · have h' : ¬ k < a.length := by simpa using h1
    obtain rfl : k = a.length := by omega
    rw [List.drop_length, h, List.drop_length] at hf
    skip;(repeat(first|(with_reducible first|apply wA|apply wB|apply wC|(apply wD;first|(refine wE ⟨?_,?_⟩;· kernel_rfl)|apply wE))|((with_reducible first|apply wF|apply wG);refine wH rfl ?_)))
    refine AW.exit ?_; refine Eq.mpr (if_pos rfl) ?_; skip;(repeat(first|(with_reducible first|apply wA|apply wB|apply wC|(apply wD;first|(refine wE ⟨?_,?_⟩;· kernel_rfl)|apply wE))|((with_reducible first|apply wF|apply wG);refine wH rfl ?_)))
    refine AW.ret (retQA ty_ok rfl rfl rfl ?_)
    exact congrArg AV.b hf
  have h' : k < a.length := by simpa using h1
  have h'' : k < b.length := by omega
  rw [List.drop_eq_getElem_cons h', List.drop_eq_getElem_cons h'', eq_step] at hf
  have hax : (a.map cTab)[k]? = some (cTab a[k]) := by rw [List.getElem?_map, List.getElem?_eq_getElem h']; rfl
  have hbx : (b.map cTab)[k]? = some (cTab b[k]) := by rw [List.getElem?_map, List.getElem?_eq_getElem h'']; rfl
  generalize a[k] = x at hf hax
  generalize b[k] = y at hf hbx
  skip;(repeat(first|(with_reducible first|apply wA|apply wB|apply wC|(apply wD;first|(refine wE ⟨?_,?_⟩;· kernel_rfl)|apply wE))|((with_reducible first|apply wF|apply wG);refine wH rfl ?_)))
  refine RG.opS rfl (op_index rfl (tab_ok ty_ok rfl) rfl (tab_ok ty_ok rfl) rfl rfl hax rfl) rfl ?_
  refine wH rfl ?_;(repeat(first|(with_reducible first|apply wA|apply wB|apply wC|(apply wD;first|(refine wE ⟨?_,?_⟩;· kernel_rfl)|apply wE))|((with_reducible first|apply wF|apply wG);refine wH rfl ?_)))
  refine RG.opS rfl (op_index rfl (tab_ok ty_ok rfl) rfl (tab_ok ty_ok rfl) rfl rfl hbx rfl) rfl ?_
  refine wH rfl ?_;(repeat(first|(with_reducible first|apply wA|apply wB|apply wC|(apply wD;first|(refine wE ⟨?_,?_⟩;· kernel_rfl)|apply wE))|((with_reducible first|apply wF|apply wG);refine wH rfl ?_)))
  have hx := H x y
  cases e : decide (x = y)
  · rw [e] at hf hx
    refine RG.callS rfl rfl rfl rfl rfl hx rfl rfl ?_; refine wH rfl ?_;(repeat(first|(with_reducible first|apply wA|apply wB|apply wC|(apply wD;first|(refine wE ⟨?_,?_⟩;· kernel_rfl)|apply wE))|((with_reducible first|apply wF|apply wG);refine wH rfl ?_)))
    refine AW.condT rfl ?_; skip;(repeat(first|(with_reducible first|apply wA|apply wB|apply wC|(apply wD;first|(refine wE ⟨?_,?_⟩;· kernel_rfl)|apply wE))|((with_reducible first|apply wF|apply wG);refine wH rfl ?_)))
    refine AW.ret (retQA ty_ok rfl rfl rfl ?_)
    exact congrArg AV.b hf
  · rw [e, Bool.true_and] at hf
    rw [e] at hx
    refine RG.callS rfl rfl rfl rfl rfl hx rfl rfl ?_; refine wH rfl ?_;(repeat(first|(with_reducible first|apply wA|apply wB|apply wC|(apply wD;first|(refine wE ⟨?_,?_⟩;· kernel_rfl)|apply wE))|((with_reducible first|apply wF|apply wG);refine wH rfl ?_)))
    refine AW.condF rfl ?_; skip;(repeat(first|(with_reducible first|apply wA|apply wB|apply wC|(apply wD;first|(refine wE ⟨?_,?_⟩;· kernel_rfl)|apply wE))|((with_reducible first|apply wF|apply wG);refine wH rfl ?_)))
    exact ⟨k + 1, ⟨⟨h', hf⟩, by omega⟩, ⟨rI rfl rfl, Rn.fnF rfl rfl, rI rfl rfl, rI rfl rfl, rI (i64_next h' hm) rfl, trivial⟩, trivial⟩
def topC (t : List (List Pt)) : Cf := ⟨⟨t⟩, ⟨0, [], []⟩, []⟩
theorem d_Same (a b : List (List Pt)) (q : Bool) (hq : decide (a = b) = q) : PDoes Tryz.prog 92 [.agg (cCf (topC a)), .agg (cCf (topC b))] (.b q) := by
 refine PDoes.of_bodyN Tryz.func92 rfl (by kernel_rfl) rfl rfl ?_
 skip;(repeat(first|(with_reducible first|apply wA|apply wB|apply wC|(apply wD;first|(refine wE ⟨?_,?_⟩;· kernel_rfl)|apply wE)))); refine wF ?_;refine wH rfl ?_;(repeat(first|(with_reducible first|apply wA|apply wB|apply wC|(apply wD;first|(refine wE ⟨?_,?_⟩;· kernel_rfl)|apply wE)))); refine wG ?_;refine wH rfl ?_;(repeat(first|(with_reducible first|apply wA|apply wB|apply wC|(apply wD;first|(refine wE ⟨?_,?_⟩;· kernel_rfl)|apply wE))))
 refine AW.text ?_
 refine wH rfl ?_
 cases q
 ·refine RG.callS rfl rfl rfl rfl rfl (d_alike_Pt a b _ hq) rfl rfl ?_; refine wH rfl ?_;(repeat(first|(with_reducible first|apply wA|apply wB|apply wC|(apply wD;first|(refine wE ⟨?_,?_⟩;· kernel_rfl)|apply wE))|((with_reducible first|apply wF|apply wG);refine wH rfl ?_)))
  refine AW.ret (retQA ty_ok rfl rfl rfl ?_)
  rfl
 refine RG.callS rfl rfl rfl rfl rfl (d_alike_Pt a b _ hq) rfl rfl ?_
 refine wH rfl ?_
 refine RG.callS rfl rfl rfl rfl rfl (d_Equal_Pr [] [] true rfl) rfl rfl ?_
 refine wH rfl ?_
 refine RG.callS rfl rfl rfl rfl rfl (d_Equal_Wy [] [] true rfl) rfl rfl ?_
 refine wH rfl ?_
 refine RG.callS rfl rfl rfl rfl rfl (d_EqualFunc_Tab 148 (fun x y => d_alike_Rl x y _ rfl) [] [] true rfl) rfl rfl ?_; refine wH rfl ?_;(repeat(first|(with_reducible first|apply wA|apply wB|apply wC|(apply wD;first|(refine wE ⟨?_,?_⟩;· kernel_rfl)|apply wE))|((with_reducible first|apply wF|apply wG);refine wH rfl ?_)))
 refine AW.ret (retQA ty_ok rfl rfl rfl ?_)
 rfl
end Go.Proofs.YtahjjfhjjbgjaaaGreat.Sm
end
section
namespace Go.Proofs.YtahjjfhjjbgjaaaGreat.Sm
open Go.RowKit
def cBo (c d : Cf) (V : Int) : List AV := [.sl (c.topo.ports.map cPts), .i .i64 c.pol.tenants, .sl (c.pol.peers.map cPr), .sl (c.pol.ways.map cWy), .sl (c.tables.map cTab), .sl (d.topo.ports.map cPts), .i .i64 d.pol.tenants, .sl (d.pol.peers.map cPr), .sl (d.pol.ways.map cWy), .sl (d.tables.map cTab), .i .i64 V]
def endEq (a b : Run) : Bool := decide (a.fin = b.fin) && decide (a.at_ = b.at_)
theorem d_dSame (a b : Run) : PDoes Tryz.prog 28 [.agg (cRun a), .agg (cRun b)] (.b (endEq a b)) := by
 refine PDoes.of_bodyN Tryz.func28 rfl (by kernel_rfl) rfl rfl ?_
 rw [endEq]
 skip;(repeat(first|(with_reducible first|apply wA|apply wB|apply wC|(apply wD;first|(refine wE ⟨?_,?_⟩;· kernel_rfl)|apply wE)))); refine wF ?_;refine wH rfl ?_;(repeat(first|(with_reducible first|apply wA|apply wB|apply wC|(apply wD;first|(refine wE ⟨?_,?_⟩;· kernel_rfl)|apply wE))))
 refine AW.text ?_
 by_cases g : a.fin = b.fin
 ·rw [decide_eq_true g]
  refine RG.runO ty_ok 0 [(9, .b true)] 400 rfl (by repeat' (first|exact trivial|apply And.intro|exact dT ‹_›|exact dF ‹_›|exact dN ‹_›|exact dM ‹_›|exact dI ‹_›)) ?_
  refine RG.opS rfl (op_eqG rfl ty_ok (by kernel_rfl) (by kernel_rfl) rfl rfl (eq_Sp a.at_ b.at_) rfl) rfl ?_
  refine wH rfl ?_;(repeat(first|(with_reducible first|apply wA|apply wB|apply wC|(apply wD;first|(refine wE ⟨?_,?_⟩;· kernel_rfl)|apply wE))|((with_reducible first|apply wF|apply wG);refine wH rfl ?_)))
  refine AW.ret (retQA ty_ok rfl rfl rfl ?_)
  rfl
 ·rw [decide_eq_false g]
  refine RG.runO ty_ok 0 [(9, .b false)] 400 rfl (by repeat' (first|exact trivial|apply And.intro|exact dT ‹_›|exact dF ‹_›|exact dN ‹_›|exact dM ‹_›|exact dI ‹_›)) ?_
  skip;(repeat(first|(with_reducible first|apply wA|apply wB|apply wC|(apply wD;first|(refine wE ⟨?_,?_⟩;· kernel_rfl)|apply wE))|((with_reducible first|apply wF|apply wG);refine wH rfl ?_)))
  refine AW.ret (retQA ty_ok rfl rfl rfl ?_)
  rfl
theorem d_same28 (a b : Run) : PDoes Tryz.prog 24 [.agg (cRun a), .agg (cRun b)] (.b (endEq a b)) := by
 refine PDoes.of_bodyN Tryz.func24 rfl (by kernel_rfl) rfl rfl ?_
 rw [endEq]
 skip;(repeat(first|(with_reducible first|apply wA|apply wB|apply wC|(apply wD;first|(refine wE ⟨?_,?_⟩;· kernel_rfl)|apply wE)))); refine wF ?_;refine wH rfl ?_;(repeat(first|(with_reducible first|apply wA|apply wB|apply wC|(apply wD;first|(refine wE ⟨?_,?_⟩;· kernel_rfl)|apply wE))))
 refine AW.text ?_
 by_cases g : a.fin = b.fin
 ·rw [decide_eq_true g]
  refine RG.runO ty_ok 0 [(9, .b true)] 400 rfl (by repeat' (first|exact trivial|apply And.intro|exact dT ‹_›|exact dF ‹_›|exact dN ‹_›|exact dM ‹_›|exact dI ‹_›)) ?_
  refine RG.opS rfl (op_eqG rfl ty_ok (by kernel_rfl) (by kernel_rfl) rfl rfl (eq_Sp a.at_ b.at_) rfl) rfl ?_
  refine wH rfl ?_;(repeat(first|(with_reducible first|apply wA|apply wB|apply wC|(apply wD;first|(refine wE ⟨?_,?_⟩;· kernel_rfl)|apply wE))|((with_reducible first|apply wF|apply wG);refine wH rfl ?_)))
  refine AW.ret (retQA ty_ok rfl rfl rfl ?_)
  rfl
 ·rw [decide_eq_false g]
  refine RG.runO ty_ok 0 [(9, .b false)] 400 rfl (by repeat' (first|exact trivial|apply And.intro|exact dT ‹_›|exact dF ‹_›|exact dN ‹_›|exact dM ‹_›|exact dI ‹_›)) ?_
  skip;(repeat(first|(with_reducible first|apply wA|apply wB|apply wC|(apply wD;first|(refine wE ⟨?_,?_⟩;· kernel_rfl)|apply wE))|((with_reducible first|apply wF|apply wG);refine wH rfl ?_)))
  refine AW.ret (retQA ty_ok rfl rfl rfl ?_)
  rfl
def rightE (c d : Cf) (V : Int) : Int := if c.sound = 0 then (if d.sound = 0 then (if V < 0 ∨ V > 255 then 4 else if c.topo.ports = d.topo.ports then 0 else 1) else d.sound) else c.sound
theorem d_bright (c d : Cf) (V : Int) : PDoes Tryz.prog 49 [.agg (cBo c d V)] (.i .i64 (rightE c d V)) := by
  refine PDoes.of_bodyN Tryz.func49 rfl (by kernel_rfl) rfl rfl ?_
  skip;(repeat(first|(with_reducible first|apply wA|apply wB|apply wC|(apply wD;first|(refine wE ⟨?_,?_⟩;· kernel_rfl)|apply wE))|((with_reducible first|apply wF|apply wG);refine wH rfl ?_)))
  refine AW.loopL (ι := Nat) (fun k => [(1, .own 1 0 0), (10, .row 10 0 0 2), (11, .i .i64 ((2 : Nat) : Int)), (12, .i .i64 (k : Nat))]) (fun _ => [(1, ⟨0, some (.box 104 (cBo c d V))⟩), (10, ⟨0, some (.row 31 5 ([c, d].map cCf))⟩)]) (fun k => k ≤ 2 ∧ (0 < k → c.sound = 0) ∧ (1 < k → d.sound = 0)) (fun k => 2 - k) 0 ⟨Nat.zero_le _, fun h => absurd h (by omega), fun h => absurd h (by omega)⟩ (by repeat(first|exact trivial|refine ⟨rI rfl rfl,?_⟩|refine ⟨rO rfl rfl rfl,?_⟩|refine ⟨rR rfl rfl rfl,?_⟩|refine ⟨bR rfl rfl,?_⟩|refine ⟨bS rfl rfl rfl,?_⟩)) (by repeat(first|exact trivial|refine ⟨rI rfl rfl,?_⟩|refine ⟨rO rfl rfl rfl,?_⟩|refine ⟨rR rfl rfl rfl,?_⟩|refine ⟨bR rfl rfl,?_⟩|refine ⟨bS rfl rfl rfl,?_⟩)) fun k hk => ?_
  obtain ⟨hk, h1, h2⟩ := hk
  skip;(repeat(first|(with_reducible first|apply wA|apply wB|apply wC|(apply wD;first|(refine wE ⟨?_,?_⟩;· kernel_rfl)|apply wE))|((with_reducible first|apply wF|apply wG);refine wH rfl ?_)))
  refine AW.cond rfl (fun h3 => ?_) (fun h3 => ?_)
  rotate_left
  · have h : ¬ ((k : Nat) : Int) < (2 : Nat) := of_decide_eq_false h3
    have g1 := h1 (by omega)
    have g2 := h2 (by omega)
    skip;(repeat(first|(with_reducible first|apply wA|apply wB|apply wC|(apply wD;first|(refine wE ⟨?_,?_⟩;· kernel_rfl)|apply wE)))); refine AW.exit ?_; refine Eq.mpr (if_pos rfl) ?_; skip;(repeat(first|(with_reducible first|apply wA|apply wB|apply wC|(apply wD;first|(refine wE ⟨?_,?_⟩;· kernel_rfl)|apply wE))))
    refine AW.text ?_
    by_cases g3 : V < 0
    · have e : rightE c d V = 4 := by rw [rightE, if_pos g1, if_pos g2, if_pos (.inl g3)]
      rw [e]
      refine RG.runO ty_ok 0 [(25, .b true)] 400 rfl (by repeat' (first|exact trivial|apply And.intro|exact dT ‹_›|exact dF ‹_›|exact dN ‹_›|exact dM ‹_›|exact dI ‹_›)) ?_
      skip;(repeat(first|(with_reducible first|apply wA|apply wB|apply wC|(apply wD;first|(refine wE ⟨?_,?_⟩;· kernel_rfl)|apply wE)))); refine AW.condT rfl ?_; skip;(repeat(first|(with_reducible first|apply wA|apply wB|apply wC|(apply wD;first|(refine wE ⟨?_,?_⟩;· kernel_rfl)|apply wE))|((with_reducible first|apply wF|apply wG);refine wH rfl ?_)))
      refine AW.ret (retQA ty_ok rfl rfl rfl ?_)
      rfl
    by_cases g4 : V > 255
    · have e : rightE c d V = 4 := by rw [rightE, if_pos g1, if_pos g2, if_pos (.inr g4)]
      rw [e]
      refine RG.runO ty_ok 0 [(25, .b false), (29, .b true)] 400 rfl (by repeat' (first|exact trivial|apply And.intro|exact dT ‹_›|exact dF ‹_›|exact dN ‹_›|exact dM ‹_›|exact dI ‹_›)) ?_
      skip;(repeat(first|(with_reducible first|apply wA|apply wB|apply wC|(apply wD;first|(refine wE ⟨?_,?_⟩;· kernel_rfl)|apply wE)))); refine AW.condT rfl ?_; skip;(repeat(first|(with_reducible first|apply wA|apply wB|apply wC|(apply wD;first|(refine wE ⟨?_,?_⟩;· kernel_rfl)|apply wE))|((with_reducible first|apply wF|apply wG);refine wH rfl ?_)))
      refine AW.ret (retQA ty_ok rfl rfl rfl ?_)
      rfl
    refine RG.runO ty_ok 0 [(25, .b false), (29, .b false)] 400 rfl (by repeat' (first|exact trivial|apply And.intro|exact dT ‹_›|exact dF ‹_›|exact dN ‹_›|exact dM ‹_›|exact dI ‹_›)) ?_
    skip;(repeat(first|(with_reducible first|apply wA|apply wB|apply wC|(apply wD;first|(refine wE ⟨?_,?_⟩;· kernel_rfl)|apply wE)))); refine AW.condF rfl ?_; skip;(repeat(first|(with_reducible first|apply wA|apply wB|apply wC|(apply wD;first|(refine wE ⟨?_,?_⟩;· kernel_rfl)|apply wE))|((with_reducible first|apply wF|apply wG);refine wH rfl ?_)))
    by_cases g5 : c.topo.ports = d.topo.ports
    · have e : rightE c d V = 0 := by rw [rightE, if_pos g1, if_pos g2, if_neg (by omega), if_pos g5]
      rw [e]
      refine RG.callS rfl rfl rfl rfl rfl (d_Same c.topo.ports d.topo.ports _ (decide_eq_true g5)) rfl rfl ?_; refine wH rfl ?_;(repeat(first|(with_reducible first|apply wA|apply wB|apply wC|(apply wD;first|(refine wE ⟨?_,?_⟩;· kernel_rfl)|apply wE))|((with_reducible first|apply wF|apply wG);refine wH rfl ?_)))
      refine AW.condF rfl ?_; skip;(repeat(first|(with_reducible first|apply wA|apply wB|apply wC|(apply wD;first|(refine wE ⟨?_,?_⟩;· kernel_rfl)|apply wE))|((with_reducible first|apply wF|apply wG);refine wH rfl ?_)))
      refine AW.ret (retQA ty_ok rfl rfl rfl ?_)
      rfl
    · have e : rightE c d V = 1 := by rw [rightE, if_pos g1, if_pos g2, if_neg (by omega), if_neg g5]
      rw [e]
      refine RG.callS rfl rfl rfl rfl rfl (d_Same c.topo.ports d.topo.ports _ (decide_eq_false g5)) rfl rfl ?_; refine wH rfl ?_;(repeat(first|(with_reducible first|apply wA|apply wB|apply wC|(apply wD;first|(refine wE ⟨?_,?_⟩;· kernel_rfl)|apply wE))|((with_reducible first|apply wF|apply wG);refine wH rfl ?_)))
      refine AW.condT rfl ?_; skip;(repeat(first|(with_reducible first|apply wA|apply wB|apply wC|(apply wD;first|(refine wE ⟨?_,?_⟩;· kernel_rfl)|apply wE))|((with_reducible first|apply wF|apply wG);refine wH rfl ?_)))
      refine AW.ret (retQA ty_ok rfl rfl rfl ?_)
      rfl
  have h : k < 2 := by have := of_decide_eq_true h3; omega
  obtain ⟨x, hx⟩ : ∃ x, [c, d][k]? = some x := ⟨_, List.getElem?_eq_getElem (by simpa using h)⟩
  skip;(repeat(first|(with_reducible first|apply wA|apply wB|apply wC|(apply wD;first|(refine wE ⟨?_,?_⟩;· kernel_rfl)|apply wE))))
  refine AW.text ?_
  refine RG.opS rfl (op_indexR0 k cCf [c, d] (by omega) rfl (tab_ok ty_ok rfl) rfl (tab_ok ty_ok rfl) rfl rfl rfl) rfl ?_
  refine RG.opS rfl (op_loadRow k cCf [c, d] x hx rfl (tab_ok ty_ok rfl) rfl rfl rfl) rfl ?_
  refine wH rfl ?_;(repeat(first|(with_reducible first|apply wA|apply wB|apply wC|(apply wD;first|(refine wE ⟨?_,?_⟩;· kernel_rfl)|apply wE))|((with_reducible first|apply wF|apply wG);refine wH rfl ?_)))
  refine RG.callS rfl rfl rfl rfl rfl (d_CSound x) rfl rfl ?_; refine wH rfl ?_;(repeat(first|(with_reducible first|apply wA|apply wB|apply wC|(apply wD;first|(refine wE ⟨?_,?_⟩;· kernel_rfl)|apply wE))|((with_reducible first|apply wF|apply wG);refine wH rfl ?_)))
  refine AW.cond rfl (fun h4 => ?_) (fun h4 => ?_)
  · have h4 : ¬ x.sound = 0 := by simpa using h4
    skip;(repeat(first|(with_reducible first|apply wA|apply wB|apply wC|(apply wD;first|(refine wE ⟨?_,?_⟩;· kernel_rfl)|apply wE))|((with_reducible first|apply wF|apply wG);refine wH rfl ?_)))
    refine AW.ret (retQA ty_ok rfl rfl rfl ?_)
    match k with
    | 0 =>
      obtain rfl : c = x := by simpa using hx
      exact congrArg (AV.i .i64) (by rw [rightE, if_neg h4])
    | 1 =>
      obtain rfl : d = x := by simpa using hx
      exact congrArg (AV.i .i64) (by rw [rightE, if_pos (h1 (by omega)), if_neg h4])
    | k + 2 => omega
  · have h4 : x.sound = 0 := by simpa using h4
    skip;(repeat(first|(with_reducible first|apply wA|apply wB|apply wC|(apply wD;first|(refine wE ⟨?_,?_⟩;· kernel_rfl)|apply wE))|((with_reducible first|apply wF|apply wG);refine wH rfl ?_)))
    refine ⟨k + 1, ⟨⟨by omega, fun _ => ?_, fun hk1 => ?_⟩, by omega⟩, (by repeat(first|exact trivial|refine ⟨rI rfl rfl,?_⟩|refine ⟨rI (i64_next (by assumption) (by first|assumption|decide)) rfl,?_⟩|refine ⟨rO rfl rfl rfl,?_⟩|refine ⟨rR rfl rfl rfl,?_⟩|refine ⟨bR rfl rfl,?_⟩|refine ⟨bS rfl rfl rfl,?_⟩)), (by repeat(first|exact trivial|refine ⟨rI rfl rfl,?_⟩|refine ⟨rO rfl rfl rfl,?_⟩|refine ⟨rR rfl rfl rfl,?_⟩|refine ⟨bR rfl rfl,?_⟩|refine ⟨bS rfl rfl rfl,?_⟩))⟩
    · match k with
      | 0 =>
        obtain rfl : c = x := by simpa using hx
        exact h4
      | k + 1 => exact h1 (by omega)
    · match k with
      | 0 => omega
      | 1 =>
        obtain rfl : d = x := by simpa using hx
        exact h4
      | k + 2 => omega
def bothAt (c d : Cf) (V : Int) (l1 l2 : List Cb) : List Atom × Int := bif decide ((askedOf c V).length > 500) then ([], 10) else bif decide ((askedOf d V).length > 500) then ([], 10) else atomsOf (addAll (addAll [] l1) l2)
def allAt (l1 l2 : List Cb) : Nat → List Cb
 | 0 => []
 | 1 => addAll [] l1
 | _ => addAll (addAll [] l1) l2
theorem d_batoms (c d : Cf) (V : Int) (l1 l2 : List Cb) (H1 : PDoes Tryz.prog 72 [.agg (cCf c), .i .i64 V] (ofR (askedOf c V) l1)) (H2 : PDoes Tryz.prog 72 [.agg (cCf d), .i .i64 V] (ofR (askedOf d V) l2)) (g1 : l1.length = (askedOf c V).length) (g2 : l2.length = (askedOf d V).length) : PDoes Tryz.prog 50 [.agg (cBo c d V)] (atsR (bothAt c d V l1 l2)) := by
  refine PDoes.of_bodyN Tryz.func50 rfl (by kernel_rfl) rfl rfl ?_
  skip;(repeat(first|(with_reducible first|apply wA|apply wB|apply wC|(apply wD;first|(refine wE ⟨?_,?_⟩;· kernel_rfl)|apply wE))))
  refine AW.text ?_
  refine wH rfl ?_
  skip;(repeat(first|(with_reducible first|apply wA|apply wB|apply wC|(apply wD;first|(refine wE ⟨?_,?_⟩;· kernel_rfl)|apply wE))))
  refine AW.text ?_
  refine RG.opS rfl (op_nilRow 4 50 4 rfl) rfl ?_
  refine wH rfl ?_;(repeat(first|(with_reducible first|apply wA|apply wB|apply wC|(apply wD;first|(refine wE ⟨?_,?_⟩;· kernel_rfl)|apply wE))|((with_reducible first|apply wF|apply wG);refine wH rfl ?_)))
  refine AW.loopL (ι := Nat) (fun k => [(1, .own 1 0 0), (4, .row 4 0 0 ((allAt l1 l2 k).map cCb).length), (15, .row 15 0 0 2), (16, .i .i64 ((2 : Nat) : Int)), (17, .i .i64 (k : Nat))]) (fun k => [(1, ⟨0, some (.box 104 (cBo c d V))⟩), (4, ⟨0, some (.row 50 4 ((allAt l1 l2 k).map cCb))⟩), (15, ⟨0, some (.row 31 5 ([c, d].map cCf))⟩)]) (fun k => k ≤ 2 ∧ (0 < k → (askedOf c V).length ≤ 500) ∧ (1 < k → (askedOf d V).length ≤ 500)) (fun k => 2 - k) 0 ⟨Nat.zero_le _, fun h => absurd h (by omega), fun h => absurd h (by omega)⟩ (by repeat(first|exact trivial|refine ⟨rI rfl rfl,?_⟩|refine ⟨rO rfl rfl rfl,?_⟩|refine ⟨rR rfl rfl rfl,?_⟩|refine ⟨bR rfl rfl,?_⟩|refine ⟨bS rfl rfl rfl,?_⟩)) (by repeat(first|exact trivial|refine ⟨rI rfl rfl,?_⟩|refine ⟨rO rfl rfl rfl,?_⟩|refine ⟨rR rfl rfl rfl,?_⟩|refine ⟨bR rfl rfl,?_⟩|refine ⟨bS rfl rfl rfl,?_⟩)) fun k hk => ?_
  obtain ⟨hk, h1, h2⟩ := hk
  skip;(repeat(first|(with_reducible first|apply wA|apply wB|apply wC|(apply wD;first|(refine wE ⟨?_,?_⟩;· kernel_rfl)|apply wE))|((with_reducible first|apply wF|apply wG);refine wH rfl ?_)))
  refine AW.cond rfl (fun h3 => ?_) (fun h3 => ?_)
  rotate_left
  · have h : ¬ ((k : Nat) : Int) < (2 : Nat) := of_decide_eq_false h3
    obtain rfl : k = 2 := by omega
    have e : bothAt c d V l1 l2 = atomsOf (addAll (addAll [] l1) l2) := by
      have := h1 (by omega)
      have := h2 (by omega)
      rw [bothAt, decide_eq_false (by omega), decide_eq_false (by omega)]
      rfl
    rw [e]
    skip;(repeat(first|(with_reducible first|apply wA|apply wB|apply wC|(apply wD;first|(refine wE ⟨?_,?_⟩;· kernel_rfl)|apply wE))|((with_reducible first|apply wF|apply wG);refine wH rfl ?_)))
    refine AW.exit ?_; refine Eq.mpr (if_pos rfl) ?_; skip;(repeat(first|(with_reducible first|apply wA|apply wB|apply wC|(apply wD;first|(refine wE ⟨?_,?_⟩;· kernel_rfl)|apply wE))|((with_reducible first|apply wF|apply wG);refine wH rfl ?_)))
    refine RG.callMS rfl rfl rfl rfl (congrArg (fun x => [x]) (rowAll rfl)) rfl (d_Split (allAt l1 l2 2)) rfl ?_; refine wH rfl ?_;(repeat(first|(with_reducible first|apply wA|apply wB|apply wC|(apply wD;first|(refine wE ⟨?_,?_⟩;· kernel_rfl)|apply wE))|((with_reducible first|apply wF|apply wG);refine wH rfl ?_)))
    refine AW.ret (retQA ty_ok rfl rfl rfl ?_)
    rfl
  have h : k < 2 := by have := of_decide_eq_true h3; omega
  obtain ⟨x, hx⟩ : ∃ x, [c, d][k]? = some x := ⟨_, List.getElem?_eq_getElem (by simpa using h)⟩
  have hO : ∃ lx, PDoes Tryz.prog 72 [.agg (cCf x), .i .i64 V] (ofR (askedOf x V) lx) ∧ lx.length = (askedOf x V).length ∧ allAt l1 l2 (k + 1) = addAll (allAt l1 l2 k) lx ∧ ((askedOf x V).length > 500 → bothAt c d V l1 l2 = ([], 10)) ∧ ((askedOf x V).length ≤ 500 → (0 < k + 1 → (askedOf c V).length ≤ 500) ∧ (1 < k + 1 → (askedOf d V).length ≤ 500)) ∧ (allAt l1 l2 k).length ≤ 500 := by
    match k with
    | 0 =>
      obtain rfl : c = x := by simpa using hx
      exact ⟨l1, H1, g1, rfl, fun hb => by rw [bothAt, decide_eq_true hb]; rfl, fun hb => ⟨fun _ => hb, fun h => absurd h (by omega)⟩, Nat.zero_le _⟩
    | 1 =>
      obtain rfl : d = x := by simpa using hx
      have hb1 := h1 (by omega)
      refine ⟨l2, H2, g2, rfl, fun hb => by rw [bothAt, decide_eq_false (by omega), decide_eq_true hb]; rfl, fun hb => ⟨fun _ => hb1, fun _ => hb⟩, ?_⟩
      have := addAll_len l1 []
      show (addAll [] l1).length ≤ 500
      rw [List.length_nil] at this
      omega
    | k + 2 => omega
  obtain ⟨lx, hOf, hlx, hall, hbad, hgood, hlen⟩ := hO
  skip;(repeat(first|(with_reducible first|apply wA|apply wB|apply wC|(apply wD;first|(refine wE ⟨?_,?_⟩;· kernel_rfl)|apply wE))))
  refine AW.text ?_
  refine RG.opS rfl (op_indexR0 k cCf [c, d] (by omega) rfl (tab_ok ty_ok rfl) rfl (tab_ok ty_ok rfl) rfl rfl rfl) rfl ?_
  refine RG.opS rfl (op_loadRow k cCf [c, d] x hx rfl (tab_ok ty_ok rfl) rfl rfl rfl) rfl ?_
  refine wH rfl ?_;(repeat(first|(with_reducible first|apply wA|apply wB|apply wC|(apply wD;first|(refine wE ⟨?_,?_⟩;· kernel_rfl)|apply wE))|((with_reducible first|apply wF|apply wG);refine wH rfl ?_)))
  by_cases hb : (askedOf x V).length > 500
  · rw [ofR, decide_eq_true hb, cond_true] at hOf
    rw [hbad hb]
    refine RG.callMS rfl rfl rfl rfl rfl rfl hOf rfl ?_; refine wH rfl ?_;(repeat(first|(with_reducible first|apply wA|apply wB|apply wC|(apply wD;first|(refine wE ⟨?_,?_⟩;· kernel_rfl)|apply wE))|((with_reducible first|apply wF|apply wG);refine wH rfl ?_)))
    refine AW.condT rfl ?_; skip;(repeat(first|(with_reducible first|apply wA|apply wB|apply wC|(apply wD;first|(refine wE ⟨?_,?_⟩;· kernel_rfl)|apply wE))|((with_reducible first|apply wF|apply wG);refine wH rfl ?_)))
    refine AW.ret (retQA ty_ok rfl rfl rfl ?_)
    rfl
  rw [ofR, decide_eq_false hb, cond_false] at hOf
  have hgood := hgood (by omega)
  refine RG.callMS rfl rfl rfl rfl rfl rfl hOf rfl ?_; refine wH rfl ?_;(repeat(first|(with_reducible first|apply wA|apply wB|apply wC|(apply wD;first|(refine wE ⟨?_,?_⟩;· kernel_rfl)|apply wE))|((with_reducible first|apply wF|apply wG);refine wH rfl ?_)))
  refine AW.condF rfl ?_; skip;(repeat(first|(with_reducible first|apply wA|apply wB|apply wC|(apply wD;first|(refine wE ⟨?_,?_⟩;· kernel_rfl)|apply wE))|((with_reducible first|apply wF|apply wG);refine wH rfl ?_)))
  have hm : lx.length ≤ 9223372036854775807 := by omega
  generalize allAt l1 l2 k = acc at hall hlen
  refine AW.loopL (ι := Nat × List Cb) (fun i => [(1, .own 1 0 0), (4, .row 4 0 0 (i.2.map cCb).length), (15, .row 15 0 0 2), (16, .i .i64 ((2 : Nat) : Int)), (17, .i .i64 (k : Nat)), (31, .sl (lx.map cCb)), (32, .i .i64 (lx.map cCb).length), (33, .i .i64 (i.1 : Nat))]) (fun i => [(1, ⟨0, some (.box 104 (cBo c d V))⟩), (4, ⟨0, some (.row 50 4 (i.2.map cCb))⟩), (15, ⟨0, some (.row 31 5 ([c, d].map cCf))⟩)]) (fun i => (i.1 ≤ lx.length ∧ i.2.length ≤ 500 + i.1) ∧ addAll i.2 (lx.drop i.1) = allAt l1 l2 (k + 1)) (fun i => lx.length - i.1) (0, acc) ⟨⟨Nat.zero_le _, hlen⟩, hall.symm⟩ (by repeat(first|exact trivial|refine ⟨rI rfl rfl,?_⟩|refine ⟨rO rfl rfl rfl,?_⟩|refine ⟨rR rfl rfl rfl,?_⟩|refine ⟨bR rfl rfl,?_⟩|refine ⟨bS rfl rfl rfl,?_⟩)) (by repeat(first|exact trivial|refine ⟨rI rfl rfl,?_⟩|refine ⟨rO rfl rfl rfl,?_⟩|refine ⟨rR rfl rfl rfl,?_⟩|refine ⟨bR rfl rfl,?_⟩|refine ⟨bS rfl rfl rfl,?_⟩)) fun i hi => ?_
  clear hall hlen
  obtain ⟨j, acc⟩ := i
  obtain ⟨⟨hj, hl⟩, hf⟩ := hi
  simp only at hj hl hf
  skip;(repeat(first|(with_reducible first|apply wA|apply wB|apply wC|(apply wD;first|(refine wE ⟨?_,?_⟩;· kernel_rfl)|apply wE))|((with_reducible first|apply wF|apply wG);refine wH rfl ?_)))
  refine AW.cond rfl (fun h4 => ?_) (fun h4 => ?_)
  rotate_left
  · have h' : ¬ j < lx.length := by simpa using h4
    obtain rfl : j = lx.length := by omega
    rw [List.drop_length, addAll] at hf
    subst hf
    skip;(repeat(first|(with_reducible first|apply wA|apply wB|apply wC|(apply wD;first|(refine wE ⟨?_,?_⟩;· kernel_rfl)|apply wE))|((with_reducible first|apply wF|apply wG);refine wH rfl ?_)))
    refine AW.exit ?_; refine Eq.mpr (if_pos rfl) ?_; skip;(repeat(first|(with_reducible first|apply wA|apply wB|apply wC|(apply wD;first|(refine wE ⟨?_,?_⟩;· kernel_rfl)|apply wE))|((with_reducible first|apply wF|apply wG);refine wH rfl ?_)))
    exact ⟨k + 1, ⟨⟨by omega, hgood.1, hgood.2⟩, by omega⟩, ⟨rO rfl rfl rfl, rR rfl rfl rfl, rR rfl rfl rfl, rI rfl rfl, rI (i64_next h (by decide)) rfl, trivial⟩, (by repeat(first|exact trivial|refine ⟨rI rfl rfl,?_⟩|refine ⟨rO rfl rfl rfl,?_⟩|refine ⟨rR rfl rfl rfl,?_⟩|refine ⟨bR rfl rfl,?_⟩|refine ⟨bS rfl rfl rfl,?_⟩))⟩
  have h' : j < lx.length := by simpa using h4
  rw [List.drop_eq_getElem_cons h', addAll] at hf
  skip;(repeat(first|(with_reducible first|apply wA|apply wB|apply wC|(apply wD;first|(refine wE ⟨?_,?_⟩;· kernel_rfl)|apply wE))))
  refine AW.text ?_
  refine RG.opS rfl (op_index rfl (tab_ok ty_ok rfl) rfl (tab_ok ty_ok rfl) rfl rfl (show (lx.map cCb)[j]? = some (cCb lx[j]) by rw [List.getElem?_map, List.getElem?_eq_getElem (by assumption)]; rfl) rfl) rfl ?_
  generalize lx[j] = p at hf
  refine wH rfl ?_;(repeat(first|(with_reducible first|apply wA|apply wB|apply wC|(apply wD;first|(refine wE ⟨?_,?_⟩;· kernel_rfl)|apply wE))|((with_reducible first|apply wF|apply wG);refine wH rfl ?_)))
  by_cases hq : p ∈ acc
  · rw [addC_in hq] at hf
    refine RG.callS rfl rfl rfl rfl (congrArg (fun x => [x, AV.agg (cCb p)]) (rowAll rfl)) (d_Contains_Cb p acc _ (decide_eq_true hq)) rfl rfl ?_; refine wH rfl ?_;(repeat(first|(with_reducible first|apply wA|apply wB|apply wC|(apply wD;first|(refine wE ⟨?_,?_⟩;· kernel_rfl)|apply wE))|((with_reducible first|apply wF|apply wG);refine wH rfl ?_)))
    refine AW.condF rfl ?_; skip;(repeat(first|(with_reducible first|apply wA|apply wB|apply wC|(apply wD;first|(refine wE ⟨?_,?_⟩;· kernel_rfl)|apply wE))|((with_reducible first|apply wF|apply wG);refine wH rfl ?_)))
    exact ⟨(j + 1, acc), ⟨⟨⟨h', by show acc.length ≤ 500 + (j + 1); omega⟩, hf⟩, by show lx.length - (j + 1) < lx.length - j; omega⟩, ⟨rO rfl rfl rfl, rR rfl rfl rfl, rR rfl rfl rfl, rI rfl rfl, rI rfl rfl, rI rfl rfl, rI rfl rfl, rI (i64_next h' hm) rfl, trivial⟩, (by repeat(first|exact trivial|refine ⟨rI rfl rfl,?_⟩|refine ⟨rO rfl rfl rfl,?_⟩|refine ⟨rR rfl rfl rfl,?_⟩|refine ⟨bR rfl rfl,?_⟩|refine ⟨bS rfl rfl rfl,?_⟩))⟩
  · rw [addC_out hq] at hf
    refine RG.callS rfl rfl rfl rfl (congrArg (fun x => [x, AV.agg (cCb p)]) (rowAll rfl)) (d_Contains_Cb p acc _ (decide_eq_false hq)) rfl rfl ?_; refine wH rfl ?_;(repeat(first|(with_reducible first|apply wA|apply wB|apply wC|(apply wD;first|(refine wE ⟨?_,?_⟩;· kernel_rfl)|apply wE))|((with_reducible first|apply wF|apply wG);refine wH rfl ?_)))
    refine AW.condT rfl ?_; skip;(repeat(first|(with_reducible first|apply wA|apply wB|apply wC|(apply wD;first|(refine wE ⟨?_,?_⟩;· kernel_rfl)|apply wE))))
    refine AW.text ?_
    refine wH rfl ?_
    refine RG.opS rfl (op_app1 cCb acc p (by omega) rfl rfl rfl rfl (tab_ok ty_ok rfl) rfl (tab_ok ty_ok rfl) rfl rfl ⟨_, rfl, rfl⟩ rfl rfl) rfl ?_; refine wH rfl ?_;(repeat(first|(with_reducible first|apply wA|apply wB|apply wC|(apply wD;first|(refine wE ⟨?_,?_⟩;· kernel_rfl)|apply wE))|((with_reducible first|apply wF|apply wG);refine wH rfl ?_)))
    exact ⟨(j + 1, acc ++ [p]), ⟨⟨⟨h', by show (acc ++ [p]).length ≤ 500 + (j + 1); rw [List.length_append, List.length_singleton]; omega⟩, hf⟩, by show lx.length - (j + 1) < lx.length - j; omega⟩, ⟨rO rfl rfl rfl, rR rfl rfl rfl, rR rfl rfl rfl, rI rfl rfl, rI rfl rfl, rI rfl rfl, rI rfl rfl, rI (i64_next h' hm) rfl, trivial⟩, (by repeat(first|exact trivial|refine ⟨rI rfl rfl,?_⟩|refine ⟨rO rfl rfl rfl,?_⟩|refine ⟨rR rfl rfl rfl,?_⟩|refine ⟨bR rfl rfl,?_⟩|refine ⟨bS rfl rfl rfl,?_⟩))⟩
end Go.Proofs.YtahjjfhjjbgjaaaGreat.Sm
end
section
namespace Go.Proofs.YtahjjfhjjbgjaaaGreat.Sm
open Go.RowKit
theorem Rn.fnG {σ σ' : Sto} {x : AV} {f : FuncId} {cs : List AV} (e : x = .fn f [.agg cs] []) (h1 : cs.all AV.one = true) (h : cs.all AV.pu1 = true) : Rn σ σ' x (.fn f [.agg cs] []) := by
 subst e
 rw [List.all_eq_true] at h h1
 refine .fn rfl rfl (fun j x x' h2 h3 => ?_) (fun j x x' h2 => by simp at h2)
 match j with
 | 0 =>
  obtain rfl : AV.agg cs = x := by simpa using h2
  obtain rfl : AV.agg cs = x' := by simpa using h3
  exact .agg rfl (fun i y hy => h1 y (List.mem_of_getElem? hy)) fun i y y' hy hy' => by
   obtain rfl : y = y' := by rw [hy] at hy'; exact Option.some.inj hy'
   exact .pu (h y (List.mem_of_getElem? hy))
 | j + 1 => simp at h2
theorem d_bapart (c d : Cf) (hc : c.sound = 0) (hd : d.sound = 0) (hLc : LooksOk c) (hLd : LooksOk d) (V : Nat) (hV : V ≤ 255) (s : Sp) (h1 : s ∈ edges c.topo.ports) (h2 : s ∈ edges d.topo.ports) (h : Hd) : PDoes Tryz.prog 51 [.agg (cBo c d (V : Nat)), .agg (cSp s), .agg (cHd h)] (.b (!endEq (runOf c s h V 10800) (runOf d s h V 10800))) := by
 refine PDoes.of_bodyN Tryz.func51 rfl (by kernel_rfl) rfl rfl ?_
 have e1 := d_Run c hc hLc s h1 h V hV
 have e2 := d_Run d hd hLd s h2 h V hV
 generalize runOf c s h V 10800 = x at e1
 generalize runOf d s h V 10800 = y at e2
 skip;(repeat(first|(with_reducible first|apply wA|apply wB|apply wC|(apply wD;first|(refine wE ⟨?_,?_⟩;· kernel_rfl)|apply wE))|((with_reducible first|apply wF|apply wG);refine wH rfl ?_)))
 refine RG.callMS rfl rfl rfl rfl rfl rfl e1 rfl ?_; refine wH rfl ?_;(repeat(first|(with_reducible first|apply wA|apply wB|apply wC|(apply wD;first|(refine wE ⟨?_,?_⟩;· kernel_rfl)|apply wE))|((with_reducible first|apply wF|apply wG);refine wH rfl ?_)))
 refine RG.callMS rfl rfl rfl rfl rfl rfl e2 rfl ?_; refine wH rfl ?_;(repeat(first|(with_reducible first|apply wA|apply wB|apply wC|(apply wD;first|(refine wE ⟨?_,?_⟩;· kernel_rfl)|apply wE))|((with_reducible first|apply wF|apply wG);refine wH rfl ?_)))
 refine RG.callS rfl rfl rfl rfl rfl (d_dSame x y) rfl rfl ?_; refine wH rfl ?_;(repeat(first|(with_reducible first|apply wA|apply wB|apply wC|(apply wD;first|(refine wE ⟨?_,?_⟩;· kernel_rfl)|apply wE))|((with_reducible first|apply wF|apply wG);refine wH rfl ?_)))
 refine AW.ret (retQA ty_ok rfl rfl rfl ?_)
 rfl
def findA (c d : Cf) (V : Nat) (s : Sp) : List Atom → Option Hd
 | [] => none
 | a :: l => bif endEq (runOf c s a.head V 10800) (runOf d s a.head V 10800) then findA c d V s l else some a.head
def findE (c d : Cf) (V : Nat) (list : List Atom) : List Sp → Sp × Hd × Bool × Int
 | [] => (Sp.zero, Hd.zero, false, 0)
 | s :: ss => match findA c d V s list with
  | some h => (s, h, true, 0)
  | none => findE c d V list ss
def findR (x : Sp × Hd × Bool × Int) : AV := .tup [.agg (cSp x.1), .agg (cHd x.2.1), .b x.2.2.1, .i .i64 x.2.2.2]
def findOf (c d : Cf) (V : Int) (l1 l2 : List Cb) : Sp × Hd × Bool × Int :=
 bif decide (rightE c d V = 0) then (bif decide ((bothAt c d V l1 l2).2 = 0) then findE c d V.toNat (bothAt c d V l1 l2).1 (edges c.topo.ports) else (Sp.zero, Hd.zero, false, (bothAt c d V l1 l2).2)) else (Sp.zero, Hd.zero, false, rightE c d V)
theorem right_ok {c d : Cf} {V : Int} (h : rightE c d V = 0) : c.sound = 0 ∧ d.sound = 0 ∧ (∃ v : Nat, V = v ∧ v ≤ 255) ∧ c.topo.ports = d.topo.ports := by
 rw [rightE] at h
 split at h
 ·rename_i h0
  split at h
  ·rename_i h1
   split at h
   ·cases h
   ·rename_i h2
    split at h
    ·rename_i h3
     exact ⟨h0, h1, ⟨V.toNat, by omega, by omega⟩, h3⟩
    ·cases h
  ·rename_i h1; exact absurd h h1
 ·rename_i h0; exact absurd h h0
theorem d_Find28 (c d : Cf) (V : Int) (l1 l2 : List Cb) (hLc : LooksOk c) (hLd : LooksOk d) (H1 : PDoes Tryz.prog 72 [.agg (cCf c), .i .i64 V] (ofR (askedOf c V) l1)) (H2 : PDoes Tryz.prog 72 [.agg (cCf d), .i .i64 V] (ofR (askedOf d V) l2)) (g1 : l1.length = (askedOf c V).length) (g2 : l2.length = (askedOf d V).length) : PDoes Tryz.prog 20 [.agg (cCf c), .agg (cCf d), .i .i64 V] (findR (findOf c d V l1 l2)) := by
  refine PDoes.of_bodyN Tryz.func20 rfl (by kernel_rfl) rfl rfl ?_
  have hA := d_batoms c d V l1 l2 H1 H2 g1 g2
  have hR := d_bright c d V
  rw [findOf]
  by_cases e : rightE c d V = 0
  rotate_left
  · rw [decide_eq_false e]
    skip;(repeat(first|(with_reducible first|apply wA|apply wB|apply wC|(apply wD;first|(refine wE ⟨?_,?_⟩;· kernel_rfl)|apply wE))|((with_reducible first|apply wF|apply wG);refine wH rfl ?_)))
    refine RG.callS rfl rfl rfl rfl rfl hR rfl rfl ?_; refine wH rfl ?_;(repeat(first|(with_reducible first|apply wA|apply wB|apply wC|(apply wD;first|(refine wE ⟨?_,?_⟩;· kernel_rfl)|apply wE))|((with_reducible first|apply wF|apply wG);refine wH rfl ?_)))
    refine AW.cond rfl (fun k => ?_) (fun k => ?_)
    · skip;(repeat(first|(with_reducible first|apply wA|apply wB|apply wC|(apply wD;first|(refine wE ⟨?_,?_⟩;· kernel_rfl)|apply wE))|((with_reducible first|apply wF|apply wG);refine wH rfl ?_)))
      refine AW.ret (retQA ty_ok rfl rfl rfl ?_)
      rfl
    · exact absurd (by simpa using k) e
  obtain ⟨hc, hd, ⟨v, rfl, hv⟩, hp⟩ := right_ok e
  rw [decide_eq_true e, cond_true, Int.toNat_natCast]
  rw [e] at hR
  have hok := Cf.ok hc
  have hE := edges_len hok.topo
  have hme : (edges c.topo.ports).length ≤ 9223372036854775807 := by omega
  generalize bothAt c d v l1 l2 = B at hA
  obtain ⟨list, er⟩ := B
  skip;(repeat(first|(with_reducible first|apply wA|apply wB|apply wC|(apply wD;first|(refine wE ⟨?_,?_⟩;· kernel_rfl)|apply wE))|((with_reducible first|apply wF|apply wG);refine wH rfl ?_)))
  refine RG.callS rfl rfl rfl rfl rfl hR rfl rfl ?_; refine wH rfl ?_;(repeat(first|(with_reducible first|apply wA|apply wB|apply wC|(apply wD;first|(refine wE ⟨?_,?_⟩;· kernel_rfl)|apply wE))|((with_reducible first|apply wF|apply wG);refine wH rfl ?_)))
  refine AW.condF rfl ?_; skip;(repeat(first|(with_reducible first|apply wA|apply wB|apply wC|(apply wD;first|(refine wE ⟨?_,?_⟩;· kernel_rfl)|apply wE))|((with_reducible first|apply wF|apply wG);refine wH rfl ?_)))
  refine RG.callMS rfl rfl rfl rfl rfl rfl hA rfl ?_; refine wH rfl ?_;(repeat(first|(with_reducible first|apply wA|apply wB|apply wC|(apply wD;first|(refine wE ⟨?_,?_⟩;· kernel_rfl)|apply wE))|((with_reducible first|apply wF|apply wG);refine wH rfl ?_)))
  refine AW.cond rfl (fun k => ?_) (fun k => ?_)
  · have k : ¬ er = 0 := by simpa using k
    rw [decide_eq_false k]
    skip;(repeat(first|(with_reducible first|apply wA|apply wB|apply wC|(apply wD;first|(refine wE ⟨?_,?_⟩;· kernel_rfl)|apply wE))|((with_reducible first|apply wF|apply wG);refine wH rfl ?_)))
    refine AW.ret (retQA ty_ok rfl rfl rfl ?_)
    rfl
  have k : er = 0 := by simpa using k
  subst k
  rw [decide_eq_true (rfl : (list, (0 : Int)).2 = 0), cond_true]
  skip;(repeat(first|(with_reducible first|apply wA|apply wB|apply wC|(apply wD;first|(refine wE ⟨?_,?_⟩;· kernel_rfl)|apply wE))|((with_reducible first|apply wF|apply wG);refine wH rfl ?_)))
  refine RG.callMS rfl rfl rfl rfl rfl rfl (d_Edges c.topo.ports hok.topo) rfl ?_; refine wH rfl ?_;(repeat(first|(with_reducible first|apply wA|apply wB|apply wC|(apply wD;first|(refine wE ⟨?_,?_⟩;· kernel_rfl)|apply wE))|((with_reducible first|apply wF|apply wG);refine wH rfl ?_)))
  refine AW.lens 12 rfl fun hml => ?_
  rw [List.length_map] at hml
  simp only at hml
  generalize hG : findE c d v (list, (0 : Int)).1 (edges c.topo.ports) = G
  simp only at hG
  refine AW.loopL (ι := Nat) (fun k => [(6, .own 6 0 0), (7, .own 7 0 0), (12, .sl (list.map cAtom)), (14, .fn 51 [.agg (cBo c d (v : Nat))] []), (44, .sl ((edges c.topo.ports).map cSp)), (45, .i .i64 ((edges c.topo.ports).map cSp).length), (46, .i .i64 (k : Nat))]) (fun _ => [(6, ⟨0, some (.box 33 (cSp Sp.zero))⟩), (7, ⟨0, some (.box 36 (cHd Hd.zero))⟩)]) (fun k => k ≤ (edges c.topo.ports).length ∧ findE c d v list ((edges c.topo.ports).drop k) = G) (fun k => (edges c.topo.ports).length - k) 0 ⟨Nat.zero_le _, hG⟩ ⟨rO rfl rfl rfl, rO rfl rfl rfl, rI rfl rfl, Rn.fnG rfl rfl rfl, rI rfl rfl, rI rfl rfl, rI rfl rfl, trivial⟩ (by repeat(first|exact trivial|refine ⟨rI rfl rfl,?_⟩|refine ⟨rO rfl rfl rfl,?_⟩|refine ⟨rR rfl rfl rfl,?_⟩|refine ⟨bR rfl rfl,?_⟩|refine ⟨bS rfl rfl rfl,?_⟩)) fun k hk => ?_
  clear hG
  obtain ⟨hk, hf⟩ := hk
  skip;(repeat(first|(with_reducible first|apply wA|apply wB|apply wC|(apply wD;first|(refine wE ⟨?_,?_⟩;· kernel_rfl)|apply wE))|((with_reducible first|apply wF|apply wG);refine wH rfl ?_)))
  refine AW.cond rfl (fun h2 => ?_) (fun h2 => ?_)
  rotate_left
  · have h : ¬ k < (edges c.topo.ports).length := by simpa using h2
    obtain rfl : k = (edges c.topo.ports).length := by omega
    rw [List.drop_length, findE] at hf
    skip;(repeat(first|(with_reducible first|apply wA|apply wB|apply wC|(apply wD;first|(refine wE ⟨?_,?_⟩;· kernel_rfl)|apply wE))|((with_reducible first|apply wF|apply wG);refine wH rfl ?_)))
    refine AW.exit ?_; refine Eq.mpr (if_pos rfl) ?_; skip;(repeat(first|(with_reducible first|apply wA|apply wB|apply wC|(apply wD;first|(refine wE ⟨?_,?_⟩;· kernel_rfl)|apply wE))|((with_reducible first|apply wF|apply wG);refine wH rfl ?_)))
    refine AW.ret (retQA ty_ok rfl rfl rfl ?_)
    rw [← hf]
    rfl
  have h : k < (edges c.topo.ports).length := by simpa using h2
  have hs := List.getElem_mem h
  rw [List.drop_eq_getElem_cons h, findE] at hf
  skip;(repeat(first|(with_reducible first|apply wA|apply wB|apply wC|(apply wD;first|(refine wE ⟨?_,?_⟩;· kernel_rfl)|apply wE))))
  refine AW.text ?_
  refine RG.opS rfl (op_index rfl (tab_ok ty_ok rfl) rfl (tab_ok ty_ok rfl) rfl rfl (show ((edges c.topo.ports).map cSp)[k]? = some (cSp (edges c.topo.ports)[k]) by rw [List.getElem?_map, List.getElem?_eq_getElem (by assumption)]; rfl) rfl) rfl ?_
  generalize (edges c.topo.ports)[k] = s at hf hs
  have hs2 : s ∈ edges d.topo.ports := by rw [← hp]; exact hs
  refine wH rfl ?_;(repeat(first|(with_reducible first|apply wA|apply wB|apply wC|(apply wD;first|(refine wE ⟨?_,?_⟩;· kernel_rfl)|apply wE))|((with_reducible first|apply wF|apply wG);refine wH rfl ?_)))
  refine AW.loopL (ι := Nat) (fun j => [(6, .own 6 0 0), (7, .own 7 0 0), (12, .sl (list.map cAtom)), (14, .fn 51 [.agg (cBo c d (v : Nat))] []), (44, .sl ((edges c.topo.ports).map cSp)), (45, .i .i64 ((edges c.topo.ports).map cSp).length), (46, .i .i64 (k : Nat)), (16, .own 16 0 0), (50, .sl (list.map cAtom)), (51, .i .i64 (list.map cAtom).length), (52, .i .i64 (j : Nat))]) (fun _ => [(6, ⟨0, some (.box 33 (cSp Sp.zero))⟩), (7, ⟨0, some (.box 36 (cHd Hd.zero))⟩), (16, ⟨0, some (.box 33 (cSp s))⟩)]) (fun j => j ≤ list.length ∧ (match findA c d v s (list.drop j) with | some h => (s, h, true, 0) | none => findE c d v list ((edges c.topo.ports).drop (k + 1))) = G) (fun j => list.length - j) 0 ⟨Nat.zero_le _, hf⟩ ⟨rO rfl rfl rfl, rO rfl rfl rfl, rI rfl rfl, Rn.fnG rfl rfl rfl, rI rfl rfl, rI rfl rfl, rI rfl rfl, rO rfl rfl rfl, rI rfl rfl, rI rfl rfl, rI rfl rfl, trivial⟩ (by repeat(first|exact trivial|refine ⟨rI rfl rfl,?_⟩|refine ⟨rO rfl rfl rfl,?_⟩|refine ⟨rR rfl rfl rfl,?_⟩|refine ⟨bR rfl rfl,?_⟩|refine ⟨bS rfl rfl rfl,?_⟩)) fun j hj => ?_
  clear hf
  obtain ⟨hj, hf⟩ := hj
  skip;(repeat(first|(with_reducible first|apply wA|apply wB|apply wC|(apply wD;first|(refine wE ⟨?_,?_⟩;· kernel_rfl)|apply wE))|((with_reducible first|apply wF|apply wG);refine wH rfl ?_)))
  refine AW.cond rfl (fun h3 => ?_) (fun h3 => ?_)
  rotate_left
  · have h' : ¬ j < list.length := by simpa using h3
    obtain rfl : j = list.length := by omega
    rw [List.drop_length, findA] at hf
    skip;(repeat(first|(with_reducible first|apply wA|apply wB|apply wC|(apply wD;first|(refine wE ⟨?_,?_⟩;· kernel_rfl)|apply wE))|((with_reducible first|apply wF|apply wG);refine wH rfl ?_)))
    refine AW.exit ?_; refine Eq.mpr (if_pos rfl) ?_; skip;(repeat(first|(with_reducible first|apply wA|apply wB|apply wC|(apply wD;first|(refine wE ⟨?_,?_⟩;· kernel_rfl)|apply wE))|((with_reducible first|apply wF|apply wG);refine wH rfl ?_)))
    exact ⟨k + 1, ⟨⟨h, hf⟩, by omega⟩, ⟨rO rfl rfl rfl, rO rfl rfl rfl, rI rfl rfl, Rn.fnG rfl rfl rfl, rI rfl rfl, rI rfl rfl, rI (i64_next h hme) rfl, trivial⟩, (by repeat(first|exact trivial|refine ⟨rI rfl rfl,?_⟩|refine ⟨rO rfl rfl rfl,?_⟩|refine ⟨rR rfl rfl rfl,?_⟩|refine ⟨bR rfl rfl,?_⟩|refine ⟨bS rfl rfl rfl,?_⟩))⟩
  have h' : j < list.length := by simpa using h3
  rw [List.drop_eq_getElem_cons h', findA] at hf
  skip;(repeat(first|(with_reducible first|apply wA|apply wB|apply wC|(apply wD;first|(refine wE ⟨?_,?_⟩;· kernel_rfl)|apply wE))))
  refine AW.text ?_
  refine RG.opS rfl (op_index rfl (tab_ok ty_ok rfl) rfl (tab_ok ty_ok rfl) rfl rfl (show (list.map cAtom)[j]? = some (cAtom list[j]) by rw [List.getElem?_map, List.getElem?_eq_getElem (by assumption)]; rfl) rfl) rfl ?_
  generalize list[j] = a at hf
  have hQ := d_bapart c d hc hd hLc hLd v hv s hs hs2 a.head
  refine wH rfl ?_;(repeat(first|(with_reducible first|apply wA|apply wB|apply wC|(apply wD;first|(refine wE ⟨?_,?_⟩;· kernel_rfl)|apply wE))|((with_reducible first|apply wF|apply wG);refine wH rfl ?_)))
  cases hq : endEq (runOf c s a.head v 10800) (runOf d s a.head v 10800)
  · rw [hq, cond_false] at hf
    rw [hq] at hQ
    refine RG.callS rfl rfl rfl rfl rfl hQ rfl rfl ?_; refine wH rfl ?_;(repeat(first|(with_reducible first|apply wA|apply wB|apply wC|(apply wD;first|(refine wE ⟨?_,?_⟩;· kernel_rfl)|apply wE))|((with_reducible first|apply wF|apply wG);refine wH rfl ?_)))
    refine AW.condT rfl ?_; skip;(repeat(first|(with_reducible first|apply wA|apply wB|apply wC|(apply wD;first|(refine wE ⟨?_,?_⟩;· kernel_rfl)|apply wE))|((with_reducible first|apply wF|apply wG);refine wH rfl ?_)))
    refine AW.ret (retQA ty_ok rfl rfl rfl ?_)
    rw [← hf]
    rfl
  · rw [hq, cond_true] at hf
    rw [hq] at hQ
    refine RG.callS rfl rfl rfl rfl rfl hQ rfl rfl ?_; refine wH rfl ?_;(repeat(first|(with_reducible first|apply wA|apply wB|apply wC|(apply wD;first|(refine wE ⟨?_,?_⟩;· kernel_rfl)|apply wE))|((with_reducible first|apply wF|apply wG);refine wH rfl ?_)))
    refine AW.condF rfl ?_; skip;(repeat(first|(with_reducible first|apply wA|apply wB|apply wC|(apply wD;first|(refine wE ⟨?_,?_⟩;· kernel_rfl)|apply wE))|((with_reducible first|apply wF|apply wG);refine wH rfl ?_)))
    exact ⟨j + 1, ⟨⟨h', hf⟩, by omega⟩, ⟨rO rfl rfl rfl, rO rfl rfl rfl, rI rfl rfl, Rn.fnG rfl rfl rfl, rI rfl rfl, rI rfl rfl, rI rfl rfl, rO rfl rfl rfl, rI rfl rfl, rI rfl rfl, rI (i64_next h' hml) rfl, trivial⟩, (by repeat(first|exact trivial|refine ⟨rI rfl rfl,?_⟩|refine ⟨rO rfl rfl rfl,?_⟩|refine ⟨rR rfl rfl rfl,?_⟩|refine ⟨bR rfl rfl,?_⟩|refine ⟨bS rfl rfl rfl,?_⟩))⟩
def lineD : Cf := ⟨⟨lnPorts⟩, ⟨1, [], []⟩, [[lnR0], [[⟨1, lnCube, ⟨1, 0, 0, Cb.zero⟩⟩, lnDrop]]]⟩
theorem fallsD : Falls [⟨1, lnCube, ⟨1, 0, 0, Cb.zero⟩⟩, lnDrop] := by
 intro k x y hx hy
 match k with
 | 0 =>
  obtain rfl := Option.some.inj hx
  obtain rfl := Option.some.inj hy
  decide
 | k + 1 => simp at hy
theorem lineD_looks : LooksOk lineD := looks_of (by
 intro tb htb l hl
 simp only [lineD, List.mem_cons, List.not_mem_nil, or_false] at htb
 rcases htb with rfl | rfl
 ·simp only [List.mem_cons, List.not_mem_nil, or_false] at hl
  subst hl
  exact ⟨falls0, by decide⟩
 ·simp only [List.mem_cons, List.not_mem_nil, or_false] at hl
  subst hl
  exact ⟨fallsD, by decide⟩)
theorem d_OfC (c : Cf) (V : Nat) (hV : V ≤ 255) (h0 : c.sound = 0) (hs : c.tables.all (fun t => Nat.ble t.flatten.length 1000) = true) (hl : Nat.blt (askedOf c (V : Nat)).length 20 = true) : PDoes Tryz.prog 72 [.agg (cCf c), .i .i64 (V : Nat)] (ofR (askedOf c (V : Nat)) (insS (askedOf c (V : Nat)))) :=
 d_Of c h0 (small_of hs) V hV _ (insS_perm _) fun _ => sort_few _ (Nat.le_of_ble_eq_true hl)
theorem d_awake28 : PDoes Tryz.prog 22 [] (.b true) := by
 refine PDoes.of_bodyN Tryz.func22 rfl (by kernel_rfl) rfl rfl ?_
 have oC := d_OfC lineC 0 (by decide) (by kernel_rfl) (by kernel_rfl) (by kernel_rfl)
 have oD := d_OfC lineD 0 (by decide) (by kernel_rfl) (by kernel_rfl) (by kernel_rfl)
 have f1 := d_Find28 lineC lineC ((0 : Nat) : Int) _ _ lineC_looks lineC_looks oC oC (insS_perm _).length_eq (insS_perm _).length_eq
 have f2 := d_Find28 lineC lineD ((0 : Nat) : Int) _ _ lineC_looks lineD_looks oC oD (insS_perm _).length_eq (insS_perm _).length_eq
 have e1 : findOf lineC lineC ((0 : Nat) : Int) (insS (askedOf lineC ((0 : Nat) : Int))) (insS (askedOf lineC ((0 : Nat) : Int))) = (Sp.zero, Hd.zero, false, 0) := by kernel_rfl
 have e2 : findOf lineC lineD ((0 : Nat) : Int) (insS (askedOf lineC ((0 : Nat) : Int))) (insS (askedOf lineD ((0 : Nat) : Int))) = (Sp.zero, (findOf lineC lineD ((0 : Nat) : Int) (insS (askedOf lineC ((0 : Nat) : Int))) (insS (askedOf lineD ((0 : Nat) : Int)))).2.1, true, 0) := by kernel_rfl
 have e3 : (findOf lineC lineD ((0 : Nat) : Int) (insS (askedOf lineC ((0 : Nat) : Int))) (insS (askedOf lineD ((0 : Nat) : Int)))).2.1.lo &&& UInt64.ofNat 1 = UInt64.ofNat 1 := by kernel_rfl
 rw [e1] at f1
 rw [e2] at f2
 generalize (findOf lineC lineD ((0 : Nat) : Int) (insS (askedOf lineC ((0 : Nat) : Int))) (insS (askedOf lineD ((0 : Nat) : Int)))).2.1 = h at f2 e3
 clear e1 e2 oC oD
 skip;(repeat(first|(with_reducible first|apply wA|apply wB|apply wC|(apply wD;first|(refine wE ⟨?_,?_⟩;· kernel_rfl)|apply wE))|((with_reducible first|apply wF|apply wG);refine wH rfl ?_)))
 refine RG.ownN [] [(300, 310), (301, 311), (302, 312), (24, 324), (30, 330), (12, 313)] m_line28 rfl rfl rfl rfl rfl rfl rfl rfl rfl rfl ?_
 refine wH rfl ?_
 refine RG.ownN [] [(300, 410), (301, 411), (302, 412), (24, 424), (30, 430), (12, 413)] m_line28 rfl rfl rfl rfl rfl rfl rfl rfl rfl rfl ?_
 refine wH rfl ?_;(repeat(first|(with_reducible first|apply wA|apply wB|apply wC|(apply wD;first|(refine wE ⟨?_,?_⟩;· kernel_rfl)|apply wE))|((with_reducible first|apply wF|apply wG);refine wH rfl ?_)))
 refine RG.callS rfl rfl rfl rfl rfl f1 rfl rfl ?_; refine wH rfl ?_;(repeat(first|(with_reducible first|apply wA|apply wB|apply wC|(apply wD;first|(refine wE ⟨?_,?_⟩;· kernel_rfl)|apply wE))|((with_reducible first|apply wF|apply wG);refine wH rfl ?_)))
 refine RG.opS rfl (op_indexRef 1 rfl (tab_ok ty_ok rfl) rfl (tab_ok ty_ok rfl) rfl rfl rfl rfl (by decide)) rfl ?_
 refine wH rfl ?_
 refine RG.opS rfl (op_indexRef 0 rfl (tab_ok ty_ok rfl) rfl (tab_ok ty_ok rfl) rfl rfl rfl rfl (by decide)) rfl ?_
 refine wH rfl ?_
 refine RG.opS rfl (op_indexR0 0 cRl lnR1 (by decide) rfl (tab_ok ty_ok rfl) rfl (tab_ok ty_ok rfl) rfl rfl rfl) rfl ?_
 refine wH rfl ?_
 refine RG.opS rfl (op_fieldAddr rfl (tab_ok ty_ok rfl) rfl rfl (tab_ok ty_ok rfl) rfl (.el rfl rfl) rfl) rfl ?_
 refine RG.opS rfl (op_storeE (k := 0) (j := 5) (cs := cRl ⟨1, lnCube, ⟨2, 1, 0, Cb.zero⟩⟩) (ns := cAc ⟨1, 0, 0, Cb.zero⟩) rfl (tab_ok ty_ok rfl) rfl rfl rfl rfl rfl rfl (by rfl) (Nat.le_of_ble_eq_true (by rfl))) rfl ?_
 refine wH rfl ?_;(repeat(first|(with_reducible first|apply wA|apply wB|apply wC|(apply wD;first|(refine wE ⟨?_,?_⟩;· kernel_rfl)|apply wE))|((with_reducible first|apply wF|apply wG);refine wH rfl ?_)))
 refine RG.callS rfl rfl rfl rfl rfl f2 rfl rfl ?_; refine wH rfl ?_;(repeat(first|(with_reducible first|apply wA|apply wB|apply wC|(apply wD;first|(refine wE ⟨?_,?_⟩;· kernel_rfl)|apply wE))|((with_reducible first|apply wF|apply wG);refine wH rfl ?_)))
 refine RG.opS rfl (op_eqG rfl ty_ok (by kernel_rfl) (by kernel_rfl) rfl rfl (eq_Sp Sp.zero Sp.zero) (decide_eq_true rfl)) rfl ?_
 refine RG.runO ty_ok 0 [(60, .b true)] 400 rfl (by repeat' (first|exact trivial|apply And.intro|exact dT ‹_›|exact dF ‹_›|exact dN ‹_›|exact dM ‹_›|exact dI ‹_›)) ?_
 refine wH rfl ?_
 refine RG.opS rfl (op_makeSlice 1 (id := 64) rfl (tab_ok ty_ok rfl) rfl (tab_ok ty_ok rfl) (by decide) (by decide) (by decide)) rfl ?_
 refine wH rfl ?_
 refine RG.callS rfl rfl rfl rfl rfl (d_dSame ⟨1, ⟨0, 0⟩, []⟩ ⟨1, ⟨0, 0⟩, [Hop.zero]⟩) rfl rfl ?_; refine wH rfl ?_;(repeat(first|(with_reducible first|apply wA|apply wB|apply wC|(apply wD;first|(refine wE ⟨?_,?_⟩;· kernel_rfl)|apply wE))|((with_reducible first|apply wF|apply wG);refine wH rfl ?_)))
 refine AW.ret (retQA ty_ok rfl rfl rfl ?_)
 rfl
theorem DifferEnds_d (a b : Run) : PDoes Tryz.prog 6 [.agg (cRun a), .agg (cRun b)] (.b true) := by
 refine PDoes.of_bodyN Tryz.func6 rfl (by kernel_rfl) rfl rfl ?_
 have h1 := d_dSame a b
 have h2 := d_same28 a b
 cases hq : endEq a b
 ·rw [hq] at h1 h2
  skip;(repeat(first|(with_reducible first|apply wA|apply wB|apply wC|(apply wD;first|(refine wE ⟨?_,?_⟩;· kernel_rfl)|apply wE))|((with_reducible first|apply wF|apply wG);refine wH rfl ?_)))
  refine RG.callS rfl rfl rfl rfl rfl d_awake28 rfl rfl ?_
  refine wH rfl ?_
  refine RG.callS rfl rfl rfl rfl rfl h1 rfl rfl ?_
  refine wH rfl ?_
  refine RG.callS rfl rfl rfl rfl rfl h2 rfl rfl ?_; refine wH rfl ?_;(repeat(first|(with_reducible first|apply wA|apply wB|apply wC|(apply wD;first|(refine wE ⟨?_,?_⟩;· kernel_rfl)|apply wE))|((with_reducible first|apply wF|apply wG);refine wH rfl ?_)))
  refine AW.ret (retQA ty_ok rfl rfl rfl ?_)
  rfl
 ·rw [hq] at h1 h2
  skip;(repeat(first|(with_reducible first|apply wA|apply wB|apply wC|(apply wD;first|(refine wE ⟨?_,?_⟩;· kernel_rfl)|apply wE))|((with_reducible first|apply wF|apply wG);refine wH rfl ?_)))
  refine RG.callS rfl rfl rfl rfl rfl d_awake28 rfl rfl ?_
  refine wH rfl ?_
  refine RG.callS rfl rfl rfl rfl rfl h1 rfl rfl ?_
  refine wH rfl ?_
  refine RG.callS rfl rfl rfl rfl rfl h2 rfl rfl ?_; refine wH rfl ?_;(repeat(first|(with_reducible first|apply wA|apply wB|apply wC|(apply wD;first|(refine wE ⟨?_,?_⟩;· kernel_rfl)|apply wE))|((with_reducible first|apply wF|apply wG);refine wH rfl ?_)))
  refine AW.ret (retQA ty_ok rfl rfl rfl ?_)
  rfl
end Go.Proofs.YtahjjfhjjbgjaaaGreat.Sm
end
section
namespace Go.Proofs.YtahjjfhjjbgjaaaGreat
open Go.RowKit Go.WideShapes Go.ChangeShapes Go.Deep Sm
theorem DifferEnds_law {H : Type} {e : TypeId × Value → H} (W : World) (b0 : Nat)
  (v0 : Value) (d0 : DataW H) (p0 : List MemPlace) (ok0 : Value.okWide Tryz.prog W .any b0 46 v0) (h0 : DataW.Trod e Tryz.prog W 0 (fun _ => true) true 46 v0 d0 p0)
  (v1 : Value) (d1 : DataW H) (p1 : List MemPlace) (ok1 : Value.okWide Tryz.prog W .any b0 46 v1) (h1 : DataW.Trod e Tryz.prog W 0 (fun _ => true) true 46 v1 d1 p1)
  : Calls Tryz.prog 6 #[v0, v1] W fun e W' => e = .returned (.bool true) ∧ Kp No W W' := by
 obtain ⟨a0, r0⟩ := ra_Run.arg_struct Tryz.underlying46 ok0 h0
 obtain ⟨a1, r1⟩ := ra_Run.arg_struct Tryz.underlying46 ok1 h1
 exact (DifferEnds_d a0 a1).law (vs := [v0, v1]) rfl (pw_cons r0 (pw_cons r1 (pw_nil)))
end Go.Proofs.YtahjjfhjjbgjaaaGreat
end
