/- The law ReachSpare of package customhouselaw30, for every input: it returns true and leaves its arguments as they were. Conditions: none beyond those of the given statement. -/
import Derived.Test.YtoaibdbehlcnfaaGreatRows
import Derived.Test.YtoaibdbehlcnfaaGreatJf
import Derived.Test.YtoaibdbehlcnfaaGreatVfh
import Derived.Deep.Slices
import Derived.Deep.Fields
import Derived.ChangeSame
import Derived.ProofKit
import Derived.OpenShut
import Derived.JoinedCond
import Derived.SizedLaws
namespace Go.Proofs.YtoaibdbehlcnfaaGreat.reachSpare
open Go.ChangeShapes Go.WideShapes Go.ChangeAt Go.RowKit
set_option linter.unusedVariables false
theorem own : ownKnob Tryz.prog.godebug = none := by kernel_rfl
theorem laidOut : laidOutB Tryz.prog = true := by kernel_rfl
theorem params : Tryz.f8.params.toList = [31, 5, 42, 34] := rfl
theorem good : ∀ t ∈ Tryz.f8.params.toList, Tryz.prog.readableRec t = true ∧ t < Tryz.prog.types.size := by
  rw [params]
  intro t ht
  simp only [List.mem_cons, List.not_mem_nil, or_false] at ht
  rcases ht with rfl | rfl | rfl | rfl
  · exact ⟨by kernel_rfl, of_decide_eq_true (by kernel_rfl)⟩
  · exact ⟨by kernel_rfl, of_decide_eq_true (by kernel_rfl)⟩
  · exact ⟨by kernel_rfl, of_decide_eq_true (by kernel_rfl)⟩
  · exact ⟨by kernel_rfl, of_decide_eq_true (by kernel_rfl)⟩
set_option maxRecDepth 100000 in
theorem lifted (os : Os) (started : os.Started) (H : Type) (enc : TypeId × Value → H) :
    ReturnsInHanded {} Tryz.checked os 8 .any (Rows.reachSpareSpec.pre6 enc Tryz.prog Tryz.f8 Rows.reachSpareRow.domain false) (Rows.reachSpareSpec.post enc Tryz.prog Tryz.f8 false true false false) := by
  refine returnsInHanded_of_change_sized (C := Tryz.checked) own started (by kernel_rfl) Tryz.func8
    (ChangeSpec.witness6 (enc := enc) (C := Tryz.checked) false ⟨#[], #[.agg #[.slice none 0 0, .int .i64 0, .slice none 0 0, .slice none 0 0, .slice none 0 0], .int .u8 0, .agg #[.int .i64 0, .int .i64 0], .agg #[.int .u64 0, .int .u64 0]], []⟩ 8 (by kernel_rfl) (by kernel_rfl) (by kernel_rfl) (by kernel_rfl)) ?_
  intro W base args ds gs before hval0 hW hcnd hsz _
  have hval : ∀ (j : Nat) t v, Tryz.f8.params[j]? = some t → args[j]? = some v → Value.okWide Tryz.prog W .any base t v := hval0
  have hW' := hW
  obtain ⟨p, q, hA0, hV, rfl, hfz, hnd⟩ := hW
  have hA : DataW.TrodAll enc Tryz.prog W 0 (fun _ => true) true Tryz.f8.params.toList args.toList ds p := hA0
  rw [params] at hA
  obtain ⟨v0, vs0, d0, ds0, p0, q0, hargs, rfl, rfl, h0, r0⟩ := trodAll_cons hA
  obtain ⟨v1, vs1, d1, ds1, p1, q1, rfl, rfl, rfl, h1, r1⟩ := trodAll_cons r0
  obtain ⟨v2, vs2, d2, ds2, p2, q2, rfl, rfl, rfl, h2, r2⟩ := trodAll_cons r1
  obtain ⟨v3, vs3, d3, ds3, p3, q3, rfl, rfl, rfl, h3, r3⟩ := trodAll_cons r2
  obtain ⟨rfl, rfl, rfl⟩ := trodAll_nil r3
  obtain rfl : args = #[v0, v1, v2, v3] := by cases args; simp_all
  obtain ⟨rfl, rfl⟩ := trodVars_none hV
  exact law_post laidOut rfl ⟨4, rfl, Tryz.underlying4⟩ good ⟨rfl, rfl, rfl⟩ hW'
    (ReachSpare_law W base v0 d0 p0 (hval 0 _ v0 rfl rfl) h0 v1 d1 p1 (hval 1 _ v1 rfl rfl) h1 v2 d2 p2 (hval 2 _ v2 rfl rfl) h2 v3 d3 p3 (hval 3 _ v3 rfl rfl) h3 hsz)
theorem k0 : Rows.reachSpareRow.wf (OpenSpec.ofChange Rows.reachSpareSpec) = true := by kernel_rfl
theorem k3 : Tryz.f8.params.all (Tryz.prog.readableRec ·) = true := by kernel_rfl
theorem k4 : namedTie Tryz.prog Rows.reachSpareRow.named Rows.reachSpareSpec.vars = true := by kernel_rfl
theorem k5 : (Rows.reachSpareRow.stops == []) = true := by kernel_rfl
theorem k7 : (Rows.reachSpareRow.knobs == []) = true := by kernel_rfl
theorem k9 : (Rows.reachSpareRow.inPlace == Tryz.prog.inPlace 8) = true := by kernel_rfl
theorem k10 : (Rows.reachSpareRow.unfollowed == Tryz.prog.unfollowed 8) = true := by kernel_rfl
theorem k11 : (Rows.reachSpareRow.recurses == Tryz.prog.recurses 8) = true := by kernel_rfl
theorem k12 : (Rows.reachSpareRow.named == Tryz.prog.varsNamed 8) = true := by kernel_rfl
theorem k13 : (Rows.reachSpareRow.maps == (Tryz.f8.params.toList ++ Rows.reachSpareSpec.plain.varTypes Tryz.prog).any (Tryz.prog.mapsRec ·)) = true := by kernel_rfl
theorem k14 : (Rows.reachSpareRow.ifaces == (Tryz.f8.params.toList ++ Rows.reachSpareSpec.plain.varTypes Tryz.prog).any (Tryz.prog.ifacesRec ·)) = true := by kernel_rfl
theorem k15 : (Rows.reachSpareRow.mapsOut == Tryz.prog.mapsAmong Tryz.f8.resultTypes.toList) = true := by kernel_rfl
theorem k16 : (Rows.reachSpareRow.loops == (Tryz.f8.params.toList ++ Rows.reachSpareSpec.plain.varTypes Tryz.prog).any (Tryz.prog.loopsFrom ·)) = true := by kernel_rfl
theorem k17 : (Rows.reachSpareRow.wideKeys == (Tryz.f8.params.toList ++ Rows.reachSpareSpec.plain.varTypes Tryz.prog ++ Tryz.f8.resultTypes.toList).any (Tryz.prog.wideKeysFrom ·)) = true := by kernel_rfl
theorem k18 : Rows.reachSpareSpec.vars.all (Tryz.prog.varReadable ·) = true := by kernel_rfl
theorem k19 : Tryz.f8.resultTypes.all (fun t => Tryz.prog.readableRec t && decide (t < Tryz.prog.types.size)) = true := by kernel_rfl
theorem k20 : (Rows.reachSpareRow.ifacesOut == Tryz.f8.resultTypes.toList.any (Tryz.prog.ifacesRec ·)) = true := by kernel_rfl
theorem k21 : (Rows.reachSpareRow.loopsOut == Tryz.f8.resultTypes.toList.any (Tryz.prog.loopsFrom ·)) = true := by kernel_rfl
theorem k23 : Rows.reachSpareRow.shortTexts.isNone = true := by kernel_rfl
theorem k28 : (Rows.reachSpareRow.kinds == (if Rows.reachSpareRow.domain.isEmpty then [] else Tryz.f8.params.toList.map fun t => match Tryz.prog.underlying t with | some (.int k) => some k | _ => none)) = true := by kernel_rfl
theorem k29 : (Rows.reachSpareRow.pinned == Rows.reachSpareRow.pinnedBy) = true := by kernel_rfl
theorem k30 : (Rows.reachSpareRow.veiled == (Tryz.f8.params.toList ++ Rows.reachSpareSpec.plain.varTypes Tryz.prog ++ Tryz.f8.resultTypes.toList).any (Tryz.prog.veiledRec ·)) = true := by kernel_rfl
theorem k31 : Rows.reachSpareRow.veiledFits Tryz.prog Tryz.f8.params.toList (Tryz.f8.params.toList ++ Rows.reachSpareSpec.plain.varTypes Tryz.prog ++ Tryz.f8.resultTypes.toList) = true := by kernel_rfl
set_option maxRecDepth 100000 in
theorem closed : joinedFacts Tryz.prog 8 Tryz.f8 Rows.reachSpareSpec Rows.reachSpareRow = true := (jf.and_t (jf.and_t (jf.and_t (jf.and_t (jf.and_t (jf.and_t (jf.and_t (jf.and_t (jf.and_t (jf.and_t (jf.and_t (jf.and_t (jf.and_t (jf.and_t (jf.and_t (jf.and_t (jf.and_t (jf.and_t (jf.and_t (jf.and_t (jf.and_t (jf.and_t (jf.and_t (jf.and_t (jf.and_t (jf.and_t (jf.and_t (jf.and_t (jf.and_t (jf.and_t (jf.and_t k0 jf.k1) jf.k2) k3) k4) k5) jf.k6) k7) jf.k8) k9) k10) k11) k12) k13) k14) k15) k16) k17) k18) k19) k20) k21) jf.k22) k23) jf.k24) jf.k25) jf.k26) jf.k27) k28) k29) k30) k31)
theorem named : Tryz.prog.funcNamed Rows.reachSpareRow.func = some 8 := by kernel_rfl
theorem inst : Tryz.f8.isInstance Tryz.prog Rows.reachSpareRow.origin Rows.reachSpareRow.targs := of_decide_eq_true (by kernel_rfl)
theorem wraps : Tryz.f8.isWrapper Tryz.prog Rows.reachSpareRow.wrapper Rows.reachSpareRow.mainSum := by unfold Func.isWrapper; first | (rw [if_pos (by decide +kernel)]; kernel_rfl) | (rw [if_neg (by decide +kernel)]; exact ⟨rfl, rfl⟩)
set_option maxRecDepth 100000 in
/-- ReachSpare: the given statement. -/
theorem proved : Rows.ReachSpareSaid :=
  OpenClaim.holds_of_wide 8 Tryz.f8 rfl rfl rfl rfl rfl rfl rfl ⟨rfl, rfl, rfl, rfl, rfl⟩ rfl rfl rfl rfl rfl named Tryz.func8 closed inst wraps
    (fun os started H enc _ => lifted os started H enc)
end Go.Proofs.YtoaibdbehlcnfaaGreat.reachSpare
