/- The law DifferNear of package customhouselaw28, for every input: it returns true and leaves its arguments as they were. Conditions: none beyond those of the given statement. -/
import Derived.Test.YtoaibdbehlcnfaaGreatRows
import Derived.Test.YtoaibdbehlcnfaaGreatJf
import Derived.Test.YtoaibdbehlcnfaaGreatVbg
import Derived.Deep.Slices
import Derived.Deep.Fields
import Derived.ChangeSame
import Derived.ProofKit
import Derived.OpenShut
import Derived.JoinedCond
import Derived.SizedLaws
namespace Go.Proofs.YtoaibdbehlcnfaaGreat.differNear
open Go.ChangeShapes Go.WideShapes Go.ChangeAt Go.RowKit
set_option linter.unusedVariables false
theorem own : ownKnob Tryz.prog.godebug = none := by kernel_rfl
theorem laidOut : laidOutB Tryz.prog = true := by kernel_rfl
theorem params : Tryz.f3.params.toList = [31, 5, 5, 5, 40, 42, 34] := rfl
theorem good : ∀ t ∈ Tryz.f3.params.toList, Tryz.prog.readableRec t = true ∧ t < Tryz.prog.types.size := by
  rw [params]
  intro t ht
  simp only [List.mem_cons, List.not_mem_nil, or_false] at ht
  rcases ht with rfl | rfl | rfl | rfl | rfl | rfl | rfl
  · exact ⟨by kernel_rfl, of_decide_eq_true (by kernel_rfl)⟩
  · exact ⟨by kernel_rfl, of_decide_eq_true (by kernel_rfl)⟩
  · exact ⟨by kernel_rfl, of_decide_eq_true (by kernel_rfl)⟩
  · exact ⟨by kernel_rfl, of_decide_eq_true (by kernel_rfl)⟩
  · exact ⟨by kernel_rfl, of_decide_eq_true (by kernel_rfl)⟩
  · exact ⟨by kernel_rfl, of_decide_eq_true (by kernel_rfl)⟩
  · exact ⟨by kernel_rfl, of_decide_eq_true (by kernel_rfl)⟩
set_option maxRecDepth 100000 in
theorem lifted (os : Os) (started : os.Started) (H : Type) (enc : TypeId × Value → H) :
    ReturnsInHanded {} Tryz.checked os 3 .any (Rows.differNearSpec.pre6 enc Tryz.prog Tryz.f3 Rows.differNearRow.domain false) (Rows.differNearSpec.post enc Tryz.prog Tryz.f3 false true false false) := by
  refine returnsInHanded_of_change_sized (C := Tryz.checked) own started (by kernel_rfl) Tryz.func3
    (ChangeSpec.witness6 (enc := enc) (C := Tryz.checked) false ⟨#[], #[.agg #[.slice none 0 0, .int .i64 0, .slice none 0 0, .slice none 0 0, .slice none 0 0], .int .u8 0, .int .u8 0, .int .u8 0, .agg #[.int .i64 0, .int .u64 0, .int .u64 0, .int .u64 0, .int .u64 0, .int .i64 0, .int .i64 0, .int .i64 0, .int .u64 0, .int .u64 0, .int .u64 0, .int .u64 0], .agg #[.int .i64 0, .int .i64 0], .agg #[.int .u64 0, .int .u64 0]], []⟩ 8 (by kernel_rfl) (by kernel_rfl) (by kernel_rfl) (by kernel_rfl)) ?_
  intro W base args ds gs before hval0 hW hcnd hsz _
  have hval : ∀ (j : Nat) t v, Tryz.f3.params[j]? = some t → args[j]? = some v → Value.okWide Tryz.prog W .any base t v := hval0
  have hW' := hW
  obtain ⟨p, q, hA0, hV, rfl, hfz, hnd⟩ := hW
  have hA : DataW.TrodAll enc Tryz.prog W 0 (fun _ => true) true Tryz.f3.params.toList args.toList ds p := hA0
  rw [params] at hA
  obtain ⟨v0, vs0, d0, ds0, p0, q0, hargs, rfl, rfl, h0, r0⟩ := trodAll_cons hA
  obtain ⟨v1, vs1, d1, ds1, p1, q1, rfl, rfl, rfl, h1, r1⟩ := trodAll_cons r0
  obtain ⟨v2, vs2, d2, ds2, p2, q2, rfl, rfl, rfl, h2, r2⟩ := trodAll_cons r1
  obtain ⟨v3, vs3, d3, ds3, p3, q3, rfl, rfl, rfl, h3, r3⟩ := trodAll_cons r2
  obtain ⟨v4, vs4, d4, ds4, p4, q4, rfl, rfl, rfl, h4, r4⟩ := trodAll_cons r3
  obtain ⟨v5, vs5, d5, ds5, p5, q5, rfl, rfl, rfl, h5, r5⟩ := trodAll_cons r4
  obtain ⟨v6, vs6, d6, ds6, p6, q6, rfl, rfl, rfl, h6, r6⟩ := trodAll_cons r5
  obtain ⟨rfl, rfl, rfl⟩ := trodAll_nil r6
  obtain rfl : args = #[v0, v1, v2, v3, v4, v5, v6] := by cases args; simp_all
  obtain ⟨rfl, rfl⟩ := trodVars_none hV
  exact law_post laidOut rfl ⟨4, rfl, Tryz.underlying4⟩ good ⟨rfl, rfl, rfl⟩ hW'
    (DifferNear_law W base v0 d0 p0 (hval 0 _ v0 rfl rfl) h0 v1 d1 p1 (hval 1 _ v1 rfl rfl) h1 v2 d2 p2 (hval 2 _ v2 rfl rfl) h2 v3 d3 p3 (hval 3 _ v3 rfl rfl) h3 v4 d4 p4 (hval 4 _ v4 rfl rfl) h4 v5 d5 p5 (hval 5 _ v5 rfl rfl) h5 v6 d6 p6 (hval 6 _ v6 rfl rfl) h6 hsz)
theorem k0 : Rows.differNearRow.wf (OpenSpec.ofChange Rows.differNearSpec) = true := by kernel_rfl
theorem k3 : Tryz.f3.params.all (Tryz.prog.readableRec ·) = true := by kernel_rfl
theorem k4 : namedTie Tryz.prog Rows.differNearRow.named Rows.differNearSpec.vars = true := by kernel_rfl
theorem k5 : (Rows.differNearRow.stops == []) = true := by kernel_rfl
theorem k7 : (Rows.differNearRow.knobs == []) = true := by kernel_rfl
theorem k9 : (Rows.differNearRow.inPlace == Tryz.prog.inPlace 3) = true := by kernel_rfl
theorem k10 : (Rows.differNearRow.unfollowed == Tryz.prog.unfollowed 3) = true := by kernel_rfl
theorem k11 : (Rows.differNearRow.recurses == Tryz.prog.recurses 3) = true := by kernel_rfl
theorem k12 : (Rows.differNearRow.named == Tryz.prog.varsNamed 3) = true := by kernel_rfl
theorem k13 : (Rows.differNearRow.maps == (Tryz.f3.params.toList ++ Rows.differNearSpec.plain.varTypes Tryz.prog).any (Tryz.prog.mapsRec ·)) = true := by kernel_rfl
theorem k14 : (Rows.differNearRow.ifaces == (Tryz.f3.params.toList ++ Rows.differNearSpec.plain.varTypes Tryz.prog).any (Tryz.prog.ifacesRec ·)) = true := by kernel_rfl
theorem k15 : (Rows.differNearRow.mapsOut == Tryz.prog.mapsAmong Tryz.f3.resultTypes.toList) = true := by kernel_rfl
theorem k16 : (Rows.differNearRow.loops == (Tryz.f3.params.toList ++ Rows.differNearSpec.plain.varTypes Tryz.prog).any (Tryz.prog.loopsFrom ·)) = true := by kernel_rfl
theorem k17 : (Rows.differNearRow.wideKeys == (Tryz.f3.params.toList ++ Rows.differNearSpec.plain.varTypes Tryz.prog ++ Tryz.f3.resultTypes.toList).any (Tryz.prog.wideKeysFrom ·)) = true := by kernel_rfl
theorem k18 : Rows.differNearSpec.vars.all (Tryz.prog.varReadable ·) = true := by kernel_rfl
theorem k19 : Tryz.f3.resultTypes.all (fun t => Tryz.prog.readableRec t && decide (t < Tryz.prog.types.size)) = true := by kernel_rfl
theorem k20 : (Rows.differNearRow.ifacesOut == Tryz.f3.resultTypes.toList.any (Tryz.prog.ifacesRec ·)) = true := by kernel_rfl
theorem k21 : (Rows.differNearRow.loopsOut == Tryz.f3.resultTypes.toList.any (Tryz.prog.loopsFrom ·)) = true := by kernel_rfl
theorem k23 : Rows.differNearRow.shortTexts.isNone = true := by kernel_rfl
theorem k28 : (Rows.differNearRow.kinds == (if Rows.differNearRow.domain.isEmpty then [] else Tryz.f3.params.toList.map fun t => match Tryz.prog.underlying t with | some (.int k) => some k | _ => none)) = true := by kernel_rfl
theorem k29 : (Rows.differNearRow.pinned == Rows.differNearRow.pinnedBy) = true := by kernel_rfl
theorem k30 : (Rows.differNearRow.veiled == (Tryz.f3.params.toList ++ Rows.differNearSpec.plain.varTypes Tryz.prog ++ Tryz.f3.resultTypes.toList).any (Tryz.prog.veiledRec ·)) = true := by kernel_rfl
theorem k31 : Rows.differNearRow.veiledFits Tryz.prog Tryz.f3.params.toList (Tryz.f3.params.toList ++ Rows.differNearSpec.plain.varTypes Tryz.prog ++ Tryz.f3.resultTypes.toList) = true := by kernel_rfl
set_option maxRecDepth 100000 in
theorem closed : joinedFacts Tryz.prog 3 Tryz.f3 Rows.differNearSpec Rows.differNearRow = true := (jf.and_t (jf.and_t (jf.and_t (jf.and_t (jf.and_t (jf.and_t (jf.and_t (jf.and_t (jf.and_t (jf.and_t (jf.and_t (jf.and_t (jf.and_t (jf.and_t (jf.and_t (jf.and_t (jf.and_t (jf.and_t (jf.and_t (jf.and_t (jf.and_t (jf.and_t (jf.and_t (jf.and_t (jf.and_t (jf.and_t (jf.and_t (jf.and_t (jf.and_t (jf.and_t (jf.and_t k0 jf.k1) jf.k2) k3) k4) k5) jf.k6) k7) jf.k8) k9) k10) k11) k12) k13) k14) k15) k16) k17) k18) k19) k20) k21) jf.k22) k23) jf.k24) jf.k25) jf.k26) jf.k27) k28) k29) k30) k31)
theorem named : Tryz.prog.funcNamed Rows.differNearRow.func = some 3 := by kernel_rfl
theorem inst : Tryz.f3.isInstance Tryz.prog Rows.differNearRow.origin Rows.differNearRow.targs := of_decide_eq_true (by kernel_rfl)
theorem wraps : Tryz.f3.isWrapper Tryz.prog Rows.differNearRow.wrapper Rows.differNearRow.mainSum := by unfold Func.isWrapper; first | (rw [if_pos (by decide +kernel)]; kernel_rfl) | (rw [if_neg (by decide +kernel)]; exact ⟨rfl, rfl⟩)
set_option maxRecDepth 100000 in
/-- DifferNear: the given statement. -/
theorem proved : Rows.DifferNearSaid :=
  OpenClaim.holds_of_wide 3 Tryz.f3 rfl rfl rfl rfl rfl rfl rfl ⟨rfl, rfl, rfl, rfl, rfl⟩ rfl rfl rfl rfl rfl named Tryz.func3 closed inst wraps
    (fun os started H enc _ => lifted os started H enc)
end Go.Proofs.YtoaibdbehlcnfaaGreat.differNear
