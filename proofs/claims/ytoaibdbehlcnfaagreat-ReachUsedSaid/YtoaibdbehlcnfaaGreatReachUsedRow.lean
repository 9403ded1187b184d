/- The law ReachUsed of package customhouselaw30, for every input: it returns true and leaves its arguments as they were. Conditions: none beyond those of the given statement. -/
import Derived.Test.YtoaibdbehlcnfaaGreatRows
import Derived.Test.YtoaibdbehlcnfaaGreatJf
import Derived.Test.YtoaibdbehlcnfaaGreatVeg
import Derived.Deep.Slices
import Derived.Deep.Fields
import Derived.ChangeSame
import Derived.ProofKit
import Derived.OpenShut
import Derived.JoinedCond
import Derived.SizedLaws
namespace Go.Proofs.YtoaibdbehlcnfaaGreat.reachUsed
open Go.ChangeShapes Go.WideShapes Go.ChangeAt Go.RowKit
set_option linter.unusedVariables false
theorem own : ownKnob Tryz.prog.godebug = none := by kernel_rfl
theorem laidOut : laidOutB Tryz.prog = true := by kernel_rfl
theorem params : Tryz.f7.params.toList = [31, 3, 42, 34] := rfl
theorem good : ∀ t ∈ Tryz.f7.params.toList, Tryz.prog.readableRec t = true ∧ t < Tryz.prog.types.size := by
  rw [params]
  intro t ht
  simp only [List.mem_cons, List.not_mem_nil, or_false] at ht
  rcases ht with rfl | rfl | rfl | rfl
  · exact ⟨by kernel_rfl, of_decide_eq_true (by kernel_rfl)⟩
  · exact ⟨by kernel_rfl, of_decide_eq_true (by kernel_rfl)⟩
  · exact ⟨by kernel_rfl, of_decide_eq_true (by kernel_rfl)⟩
  · exact ⟨by kernel_rfl, of_decide_eq_true (by kernel_rfl)⟩
set_option maxRecDepth 100000 in
theorem lifted (os : Os) (started : os.Started) (H : Type) (enc : TypeId × Value → H) :
    ReturnsInHanded {} Tryz.checked os 7 .any (Rows.reachUsedSpec.pre6 enc Tryz.prog Tryz.f7 Rows.reachUsedRow.domain false) (Rows.reachUsedSpec.post enc Tryz.prog Tryz.f7 false true false false) := by
  refine returnsInHanded_of_change_sized (C := Tryz.checked) own started (by kernel_rfl) Tryz.func7
    (ChangeSpec.witness6 (enc := enc) (C := Tryz.checked) false ⟨#[], #[.agg #[.slice none 0 0, .int .i64 0, .slice none 0 0, .slice none 0 0, .slice none 0 0], .int .i64 0, .agg #[.int .i64 0, .int .i64 0], .agg #[.int .u64 0, .int .u64 0]], []⟩ 8 (by kernel_rfl) (by kernel_rfl) (by kernel_rfl) (by kernel_rfl)) ?_
  intro W base args ds gs before hval0 hW hcnd hsz _
  have hval : ∀ (j : Nat) t v, Tryz.f7.params[j]? = some t → args[j]? = some v → Value.okWide Tryz.prog W .any base t v := hval0
  have hW' := hW
  obtain ⟨p, q, hA0, hV, rfl, hfz, hnd⟩ := hW
  have hA : DataW.TrodAll enc Tryz.prog W 0 (fun _ => true) true Tryz.f7.params.toList args.toList ds p := hA0
  rw [params] at hA
  obtain ⟨v0, vs0, d0, ds0, p0, q0, hargs, rfl, rfl, h0, r0⟩ := trodAll_cons hA
  obtain ⟨v1, vs1, d1, ds1, p1, q1, rfl, rfl, rfl, h1, r1⟩ := trodAll_cons r0
  obtain ⟨v2, vs2, d2, ds2, p2, q2, rfl, rfl, rfl, h2, r2⟩ := trodAll_cons r1
  obtain ⟨v3, vs3, d3, ds3, p3, q3, rfl, rfl, rfl, h3, r3⟩ := trodAll_cons r2
  obtain ⟨rfl, rfl, rfl⟩ := trodAll_nil r3
  obtain rfl : args = #[v0, v1, v2, v3] := by cases args; simp_all
  obtain ⟨rfl, rfl⟩ := trodVars_none hV
  exact law_post laidOut rfl ⟨4, rfl, Tryz.underlying4⟩ good ⟨rfl, rfl, rfl⟩ hW'
    (ReachUsed_law W base v0 d0 p0 (hval 0 _ v0 rfl rfl) h0 v1 d1 p1 (hval 1 _ v1 rfl rfl) h1 v2 d2 p2 (hval 2 _ v2 rfl rfl) h2 v3 d3 p3 (hval 3 _ v3 rfl rfl) h3 hsz)
theorem k0 : Rows.reachUsedRow.wf (OpenSpec.ofChange Rows.reachUsedSpec) = true := by kernel_rfl
theorem k3 : Tryz.f7.params.all (Tryz.prog.readableRec ·) = true := by kernel_rfl
theorem k4 : namedTie Tryz.prog Rows.reachUsedRow.named Rows.reachUsedSpec.vars = true := by kernel_rfl
theorem k5 : (Rows.reachUsedRow.stops == []) = true := by kernel_rfl
theorem k7 : (Rows.reachUsedRow.knobs == []) = true := by kernel_rfl
theorem k9 : (Rows.reachUsedRow.inPlace == Tryz.prog.inPlace 7) = true := by kernel_rfl
theorem k10 : (Rows.reachUsedRow.unfollowed == Tryz.prog.unfollowed 7) = true := by kernel_rfl
theorem k11 : (Rows.reachUsedRow.recurses == Tryz.prog.recurses 7) = true := by kernel_rfl
theorem k12 : (Rows.reachUsedRow.named == Tryz.prog.varsNamed 7) = true := by kernel_rfl
theorem k13 : (Rows.reachUsedRow.maps == (Tryz.f7.params.toList ++ Rows.reachUsedSpec.plain.varTypes Tryz.prog).any (Tryz.prog.mapsRec ·)) = true := by kernel_rfl
theorem k14 : (Rows.reachUsedRow.ifaces == (Tryz.f7.params.toList ++ Rows.reachUsedSpec.plain.varTypes Tryz.prog).any (Tryz.prog.ifacesRec ·)) = true := by kernel_rfl
theorem k15 : (Rows.reachUsedRow.mapsOut == Tryz.prog.mapsAmong Tryz.f7.resultTypes.toList) = true := by kernel_rfl
theorem k16 : (Rows.reachUsedRow.loops == (Tryz.f7.params.toList ++ Rows.reachUsedSpec.plain.varTypes Tryz.prog).any (Tryz.prog.loopsFrom ·)) = true := by kernel_rfl
theorem k17 : (Rows.reachUsedRow.wideKeys == (Tryz.f7.params.toList ++ Rows.reachUsedSpec.plain.varTypes Tryz.prog ++ Tryz.f7.resultTypes.toList).any (Tryz.prog.wideKeysFrom ·)) = true := by kernel_rfl
theorem k18 : Rows.reachUsedSpec.vars.all (Tryz.prog.varReadable ·) = true := by kernel_rfl
theorem k19 : Tryz.f7.resultTypes.all (fun t => Tryz.prog.readableRec t && decide (t < Tryz.prog.types.size)) = true := by kernel_rfl
theorem k20 : (Rows.reachUsedRow.ifacesOut == Tryz.f7.resultTypes.toList.any (Tryz.prog.ifacesRec ·)) = true := by kernel_rfl
theorem k21 : (Rows.reachUsedRow.loopsOut == Tryz.f7.resultTypes.toList.any (Tryz.prog.loopsFrom ·)) = true := by kernel_rfl
theorem k23 : Rows.reachUsedRow.shortTexts.isNone = true := by kernel_rfl
theorem k28 : (Rows.reachUsedRow.kinds == (if Rows.reachUsedRow.domain.isEmpty then [] else Tryz.f7.params.toList.map fun t => match Tryz.prog.underlying t with | some (.int k) => some k | _ => none)) = true := by kernel_rfl
theorem k29 : (Rows.reachUsedRow.pinned == Rows.reachUsedRow.pinnedBy) = true := by kernel_rfl
theorem k30 : (Rows.reachUsedRow.veiled == (Tryz.f7.params.toList ++ Rows.reachUsedSpec.plain.varTypes Tryz.prog ++ Tryz.f7.resultTypes.toList).any (Tryz.prog.veiledRec ·)) = true := by kernel_rfl
theorem k31 : Rows.reachUsedRow.veiledFits Tryz.prog Tryz.f7.params.toList (Tryz.f7.params.toList ++ Rows.reachUsedSpec.plain.varTypes Tryz.prog ++ Tryz.f7.resultTypes.toList) = true := by kernel_rfl
set_option maxRecDepth 100000 in
theorem closed : joinedFacts Tryz.prog 7 Tryz.f7 Rows.reachUsedSpec Rows.reachUsedRow = true := (jf.and_t (jf.and_t (jf.and_t (jf.and_t (jf.and_t (jf.and_t (jf.and_t (jf.and_t (jf.and_t (jf.and_t (jf.and_t (jf.and_t (jf.and_t (jf.and_t (jf.and_t (jf.and_t (jf.and_t (jf.and_t (jf.and_t (jf.and_t (jf.and_t (jf.and_t (jf.and_t (jf.and_t (jf.and_t (jf.and_t (jf.and_t (jf.and_t (jf.and_t (jf.and_t (jf.and_t k0 jf.k1) jf.k2) k3) k4) k5) jf.k6) k7) jf.k8) k9) k10) k11) k12) k13) k14) k15) k16) k17) k18) k19) k20) k21) jf.k22) k23) jf.k24) jf.k25) jf.k26) jf.k27) k28) k29) k30) k31)
theorem named : Tryz.prog.funcNamed Rows.reachUsedRow.func = some 7 := by kernel_rfl
theorem inst : Tryz.f7.isInstance Tryz.prog Rows.reachUsedRow.origin Rows.reachUsedRow.targs := of_decide_eq_true (by kernel_rfl)
theorem wraps : Tryz.f7.isWrapper Tryz.prog Rows.reachUsedRow.wrapper Rows.reachUsedRow.mainSum := by unfold Func.isWrapper; first | (rw [if_pos (by decide +kernel)]; kernel_rfl) | (rw [if_neg (by decide +kernel)]; exact ⟨rfl, rfl⟩)
set_option maxRecDepth 100000 in
/-- ReachUsed: the given statement. -/
theorem proved : Rows.ReachUsedSaid :=
  OpenClaim.holds_of_wide 7 Tryz.f7 rfl rfl rfl rfl rfl rfl rfl ⟨rfl, rfl, rfl, rfl, rfl⟩ rfl rfl rfl rfl rfl named Tryz.func7 closed inst wraps
    (fun os started H enc _ => lifted os started H enc)
end Go.Proofs.YtoaibdbehlcnfaaGreat.reachUsed
