/- How values of package api's types read as abstract values. No function of the program. -/
import Derived.Test.YtpaldbejnbcokaaSm3
import Derived.Test.YtpaldbejnbcokaaWp
namespace Go.Proofs.Ytpaldbejnbcokaa.Sm
open Go.RowKit Go.WideShapes Go.ChangeShapes Go.Deep
theorem rd_int : ReadA Try.prog 3 1 (fun x : UInt64 => [.i .i64 (i64of x)]) := .i64 Try.underlying3
theorem rd_u64 : ReadA Try.prog 93 1 (fun x : UInt64 => [.u x]) := .u64 Try.underlying93
theorem rd_u8 : ReadA Try.prog 5 1 (fun x : UInt8 => [.y x]) := .u8 Try.underlying5
def encHd (x : Hd) : List AV := [.u x.hi, .u x.lo]
def encCb (x : Cb) : List AV := [.u x.value.hi, .u x.value.lo, .u x.care.hi, .u x.care.lo]
def encAc (x : Ac) : List AV := [.i .i64 (i64of x.kind), .i .i64 (i64of x.port), .i .i64 (i64of x.table), .u x.set.value.hi, .u x.set.value.lo, .u x.set.care.hi, .u x.set.care.lo]
theorem rd_Hd : ReadA Try.prog 106 2 (α := Hd) encHd := by
  refine ⟨fun _ => rfl, fun a => List.all_eq_true.1 rfl, fun H e w base spare held fuel cs x hx => ?_⟩
  obtain ⟨m, hl, hp⟩ := struct_part Try.underlying106 hx
  have hl : cs.length = 2 := hl.trans (by kernel_rfl)
  obtain ⟨a0, h0⟩ := rd_u64.part (hp 0 93 0 1 rfl (by kernel_rfl))
  obtain ⟨a1, h1⟩ := rd_u64.part (hp 1 93 1 1 rfl (by kernel_rfl))
  refine ⟨⟨a0, a1⟩, PWs.all ?_⟩
  exact h0.join rfl (h1.join rfl (PWs.nil hl))
theorem rd_Cb : ReadA Try.prog 108 4 (α := Cb) encCb := by
  refine ⟨fun _ => rfl, fun a => List.all_eq_true.1 rfl, fun H e w base spare held fuel cs x hx => ?_⟩
  obtain ⟨m, hl, hp⟩ := struct_part Try.underlying108 hx
  have hl : cs.length = 4 := hl.trans (by kernel_rfl)
  obtain ⟨a0, h0⟩ := rd_Hd.part (hp 0 106 0 2 rfl (by kernel_rfl))
  obtain ⟨a1, h1⟩ := rd_Hd.part (hp 1 106 2 2 rfl (by kernel_rfl))
  refine ⟨⟨a0, a1⟩, PWs.all ?_⟩
  exact h0.join rfl (h1.join rfl (PWs.nil hl))
theorem rd_Ac : ReadA Try.prog 110 7 (α := Ac) encAc := by
  refine ⟨fun _ => rfl, fun a => List.all_eq_true.1 rfl, fun H e w base spare held fuel cs x hx => ?_⟩
  obtain ⟨m, hl, hp⟩ := struct_part Try.underlying110 hx
  have hl : cs.length = 7 := hl.trans (by kernel_rfl)
  obtain ⟨a0, h0⟩ := rd_int.part (hp 0 3 0 1 rfl (by kernel_rfl))
  obtain ⟨a1, h1⟩ := rd_int.part (hp 1 3 1 1 rfl (by kernel_rfl))
  obtain ⟨a2, h2⟩ := rd_int.part (hp 2 3 2 1 rfl (by kernel_rfl))
  obtain ⟨a3, h3⟩ := rd_Cb.part (hp 3 108 3 4 rfl (by kernel_rfl))
  refine ⟨⟨a0, a1, a2, a3⟩, PWs.all ?_⟩
  exact h0.join rfl (h1.join rfl (h2.join rfl (h3.join rfl (PWs.nil hl))))
theorem rd_Rl : ReadA Try.prog 112 12 (α := Rl) encRl := by
  refine ⟨fun _ => rfl, fun a => List.all_eq_true.1 rfl, fun H e w base spare held fuel cs x hx => ?_⟩
  obtain ⟨m, hl, hp⟩ := struct_part Try.underlying112 hx
  have hl : cs.length = 12 := hl.trans (by kernel_rfl)
  obtain ⟨a0, h0⟩ := rd_int.part (hp 0 3 0 1 rfl (by kernel_rfl))
  obtain ⟨a1, h1⟩ := rd_Cb.part (hp 1 108 1 4 rfl (by kernel_rfl))
  obtain ⟨a2, h2⟩ := rd_Ac.part (hp 2 110 5 7 rfl (by kernel_rfl))
  refine ⟨⟨a0, a1, a2⟩, PWs.all ?_⟩
  exact h0.join rfl (h1.join rfl (h2.join rfl (PWs.nil hl)))
theorem rd_Pt : ReadA Try.prog 88 5 (α := Pt) encPt := by
  refine ⟨fun _ => rfl, fun a => List.all_eq_true.1 rfl, fun H e w base spare held fuel cs x hx => ?_⟩
  obtain ⟨m, hl, hp⟩ := struct_part Try.underlying88 hx
  have hl : cs.length = 5 := hl.trans (by kernel_rfl)
  obtain ⟨a0, h0⟩ := rd_int.part (hp 0 3 0 1 rfl (by kernel_rfl))
  obtain ⟨a1, h1⟩ := rd_int.part (hp 1 3 1 1 rfl (by kernel_rfl))
  obtain ⟨a2, h2⟩ := rd_int.part (hp 2 3 2 1 rfl (by kernel_rfl))
  obtain ⟨a3, h3⟩ := rd_int.part (hp 3 3 3 1 rfl (by kernel_rfl))
  obtain ⟨a4, h4⟩ := rd_int.part (hp 4 3 4 1 rfl (by kernel_rfl))
  refine ⟨⟨a0, a1, a2, a3, a4⟩, PWs.all ?_⟩
  exact h0.join rfl (h1.join rfl (h2.join rfl (h3.join rfl (h4.join rfl (PWs.nil hl)))))
theorem rd_Wy : ReadA Try.prog 91 3 (α := Wy) encWy := by
  refine ⟨fun _ => rfl, fun a => List.all_eq_true.1 rfl, fun H e w base spare held fuel cs x hx => ?_⟩
  obtain ⟨m, hl, hp⟩ := struct_part Try.underlying91 hx
  have hl : cs.length = 3 := hl.trans (by kernel_rfl)
  obtain ⟨a0, h0⟩ := rd_int.part (hp 0 3 0 1 rfl (by kernel_rfl))
  obtain ⟨a1, h1⟩ := rd_int.part (hp 1 3 1 1 rfl (by kernel_rfl))
  obtain ⟨a2, h2⟩ := rd_int.part (hp 2 3 2 1 rfl (by kernel_rfl))
  refine ⟨⟨a0, a1, a2⟩, PWs.all ?_⟩
  exact h0.join rfl (h1.join rfl (h2.join rfl (PWs.nil hl)))
theorem rd_Pr : ReadA Try.prog 89 2 (α := Pr) encPr := by
  refine ⟨fun _ => rfl, fun a => List.all_eq_true.1 rfl, fun H e w base spare held fuel cs x hx => ?_⟩
  obtain ⟨m, hl, hp⟩ := array_part Try.underlying89 hx
  have hl : cs.length = 2 := hl.trans (by kernel_rfl)
  obtain ⟨a0, h0⟩ := rd_int.part (hp 0 0 1 (by omega) (by kernel_rfl) rfl)
  obtain ⟨a1, h1⟩ := rd_int.part (hp 1 1 1 (by omega) (by kernel_rfl) rfl)
  exact ⟨⟨a0, a1⟩, PWs.all (h0.join rfl (h1.join rfl (PWs.nil hl)))⟩
theorem rd_Pts : ReadA Try.prog 86 1 (fun l : List (Pt) => [.sl (l.map encPt)]) := rd_Pt.slice Try.underlying86 (by kernel_rfl) (by decide)
theorem rd_Ptss : ReadA Try.prog 22 1 (fun l : List (List Pt) => [.sl (l.map encPts)]) := rd_Pts.slice Try.underlying22 (by kernel_rfl) (by decide)
theorem rd_Prs : ReadA Try.prog 25 1 (fun l : List (Pr) => [.sl (l.map encPr)]) := rd_Pr.slice Try.underlying25 (by kernel_rfl) (by decide)
theorem rd_Wys : ReadA Try.prog 26 1 (fun l : List (Wy) => [.sl (l.map encWy)]) := rd_Wy.slice Try.underlying26 (by kernel_rfl) (by decide)
theorem rd_Rls : ReadA Try.prog 104 1 (fun l : List (Rl) => [.sl (l.map encRl)]) := rd_Rl.slice Try.underlying104 (by kernel_rfl) (by decide)
theorem rd_Tab : ReadA Try.prog 44 1 (fun l : List (List Rl) => [.sl (l.map encRls)]) := rd_Rls.slice Try.underlying44 (by kernel_rfl) (by decide)
theorem rd_Tabs : ReadA Try.prog 29 1 (fun l : List (List (List Rl)) => [.sl (l.map encTab)]) := rd_Tab.slice Try.underlying29 (by kernel_rfl) (by decide)
structure Pol where
  tenants : UInt64
  peers : List Pr
  ways : List Wy
def encPol (x : Pol) : List AV := [.i .i64 (i64of x.tenants), .sl (x.peers.map encPr), .sl (x.ways.map encWy)]
theorem rd_Topo : ReadA Try.prog 24 1 (α := List (List Pt)) (fun x => [.sl (x.map encPts)]) := by
  refine ⟨fun _ => rfl, fun a => List.all_eq_true.1 rfl, fun H e w base spare held fuel cs x hx => ?_⟩
  obtain ⟨m, hl, hp⟩ := struct_part Try.underlying24 hx
  have hl : cs.length = 1 := hl.trans (by kernel_rfl)
  obtain ⟨a0, h0⟩ := rd_Ptss.part (hp 0 22 0 1 rfl (by kernel_rfl))
  refine ⟨a0, PWs.all ?_⟩
  exact h0.join rfl (PWs.nil hl)
theorem rd_Pol : ReadA Try.prog 28 3 (α := Pol) encPol := by
  refine ⟨fun _ => rfl, fun a => List.all_eq_true.1 rfl, fun H e w base spare held fuel cs x hx => ?_⟩
  obtain ⟨m, hl, hp⟩ := struct_part Try.underlying28 hx
  have hl : cs.length = 3 := hl.trans (by kernel_rfl)
  obtain ⟨a0, h0⟩ := rd_int.part (hp 0 3 0 1 rfl (by kernel_rfl))
  obtain ⟨a1, h1⟩ := rd_Prs.part (hp 1 25 1 1 rfl (by kernel_rfl))
  obtain ⟨a2, h2⟩ := rd_Wys.part (hp 2 26 2 1 rfl (by kernel_rfl))
  refine ⟨⟨a0, a1, a2⟩, PWs.all ?_⟩
  exact h0.join rfl (h1.join rfl (h2.join rfl (PWs.nil hl)))
theorem rd_Cfg : ReadA Try.prog 31 5 (α := Cfg) cfgC := by
  refine ⟨fun _ => rfl, fun a => List.all_eq_true.1 rfl, fun H e w base spare held fuel cs x hx => ?_⟩
  obtain ⟨m, hl, hp⟩ := struct_part Try.underlying31 hx
  have hl : cs.length = 5 := hl.trans (by kernel_rfl)
  obtain ⟨a0, h0⟩ := rd_Topo.part (hp 0 24 0 1 rfl (by kernel_rfl))
  obtain ⟨a1, h1⟩ := rd_Pol.part (hp 1 28 1 3 rfl (by kernel_rfl))
  obtain ⟨a2, h2⟩ := rd_Tabs.part (hp 2 29 4 1 rfl (by kernel_rfl))
  refine ⟨⟨a0, a1.tenants, a1.peers, a1.ways, a2⟩, PWs.all ?_⟩
  exact h0.join rfl (h1.join rfl (h2.join rfl (PWs.nil hl)))
theorem rd_Lt : ReadA Try.prog 46 6 (α := Lt) ltC := by
  refine ⟨fun _ => rfl, fun a => List.all_eq_true.1 rfl, fun H e w base spare held fuel cs x hx => ?_⟩
  obtain ⟨m, hl, hp⟩ := struct_part Try.underlying46 hx
  have hl : cs.length = 6 := hl.trans (by kernel_rfl)
  obtain ⟨a0, h0⟩ := rd_int.part (hp 0 3 0 1 rfl (by kernel_rfl))
  obtain ⟨a1, h1⟩ := rd_int.part (hp 1 3 1 1 rfl (by kernel_rfl))
  obtain ⟨a2, h2⟩ := rd_int.part (hp 2 3 2 1 rfl (by kernel_rfl))
  obtain ⟨a3, h3⟩ := rd_int.part (hp 3 3 3 1 rfl (by kernel_rfl))
  obtain ⟨a4, h4⟩ := rd_int.part (hp 4 3 4 1 rfl (by kernel_rfl))
  obtain ⟨a5, h5⟩ := rd_Tab.part (hp 5 44 5 1 rfl (by kernel_rfl))
  refine ⟨⟨a0, a1, a2, a3, a4, a5⟩, PWs.all ?_⟩
  exact h0.join rfl (h1.join rfl (h2.join rfl (h3.join rfl (h4.join rfl (h5.join rfl (PWs.nil hl))))))
theorem rd_En : ReadA Try.prog 57 8 (α := En) enC := by
  refine ⟨fun _ => rfl, fun a => List.all_eq_true.1 rfl, fun H e w base spare held fuel cs x hx => ?_⟩
  obtain ⟨m, hl, hp⟩ := struct_part Try.underlying57 hx
  have hl : cs.length = 8 := hl.trans (by kernel_rfl)
  obtain ⟨a0, h0⟩ := rd_int.part (hp 0 3 0 1 rfl (by kernel_rfl))
  obtain ⟨a1, h1⟩ := rd_int.part (hp 1 3 1 1 rfl (by kernel_rfl))
  obtain ⟨a2, h2⟩ := rd_int.part (hp 2 3 2 1 rfl (by kernel_rfl))
  obtain ⟨a3, h3⟩ := rd_Cfg.part (hp 3 31 3 5 rfl (by kernel_rfl))
  refine ⟨⟨a0, a1, a2, a3⟩, PWs.all ?_⟩
  exact h0.join rfl (h1.join rfl (h2.join rfl (h3.join rfl (PWs.nil hl))))
end Go.Proofs.Ytpaldbejnbcokaa.Sm
