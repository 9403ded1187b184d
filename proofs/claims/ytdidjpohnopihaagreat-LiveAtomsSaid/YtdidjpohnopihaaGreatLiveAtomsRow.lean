/- The law LiveAtoms of package customhouselaw17, for every input: it returns true and leaves its arguments as they were. Conditions: none beyond those of the given statement. -/
import Derived.Test.YtdidjpohnopihaaGreatRows
import Derived.Test.YtdidjpohnopihaaGreatJf
import Derived.Test.YtdidjpohnopihaaGreatVqi
import Derived.Deep.Slices
import Derived.Deep.Fields
import Derived.ChangeSame
import Derived.ProofKit
import Derived.OpenShut
import Derived.JoinedCond
import Derived.SizedLaws
namespace Go.Proofs.YtdidjpohnopihaaGreat.liveAtoms
open Go.ChangeShapes Go.WideShapes Go.ChangeAt Go.RowKit
set_option linter.unusedVariables false
theorem own : ownKnob Tryz.prog.godebug = none := by kernel_rfl
theorem laidOut : laidOutB Tryz.prog = true := by kernel_rfl
theorem params : Tryz.f5.params.toList = [31, 68, 40, 34, 34] := rfl
theorem good : ∀ t ∈ Tryz.f5.params.toList, Tryz.prog.readableRec t = true ∧ t < Tryz.prog.types.size := by
  rw [params]
  intro t ht
  simp only [List.mem_cons, List.not_mem_nil, or_false] at ht
  rcases ht with rfl | rfl | rfl | rfl | rfl
  · exact ⟨by kernel_rfl, of_decide_eq_true (by kernel_rfl)⟩
  · exact ⟨by kernel_rfl, of_decide_eq_true (by kernel_rfl)⟩
  · exact ⟨by kernel_rfl, of_decide_eq_true (by kernel_rfl)⟩
  · exact ⟨by kernel_rfl, of_decide_eq_true (by kernel_rfl)⟩
  · exact ⟨by kernel_rfl, of_decide_eq_true (by kernel_rfl)⟩
set_option maxRecDepth 100000 in
theorem lifted (os : Os) (started : os.Started) (H : Type) (enc : TypeId × Value → H) :
    ReturnsInHanded {} Tryz.checked os 5 .any (Rows.liveAtomsSpec.pre6 enc Tryz.prog Tryz.f5 Rows.liveAtomsRow.domain false) (Rows.liveAtomsSpec.post enc Tryz.prog Tryz.f5 false true false false) := by
  refine returnsInHanded_of_change_sized (C := Tryz.checked) own started (by kernel_rfl) Tryz.func5
    (ChangeSpec.witness6 (enc := enc) (C := Tryz.checked) false ⟨#[], #[.agg #[.slice none 0 0, .int .i64 0, .slice none 0 0, .slice none 0 0, .slice none 0 0], .slice none 0 0, .agg #[.int .i64 0, .int .i64 0], .agg #[.int .u64 0, .int .u64 0], .agg #[.int .u64 0, .int .u64 0]], []⟩ 8 (by kernel_rfl) (by kernel_rfl) (by kernel_rfl) (by kernel_rfl)) ?_
  intro W base args ds gs before hval0 hW hcnd hsz _
  have hval : ∀ (j : Nat) t v, Tryz.f5.params[j]? = some t → args[j]? = some v → Value.okWide Tryz.prog W .any base t v := hval0
  have hW' := hW
  obtain ⟨p, q, hA0, hV, rfl, hfz, hnd⟩ := hW
  have hA : DataW.TrodAll enc Tryz.prog W 0 (fun _ => true) true Tryz.f5.params.toList args.toList ds p := hA0
  rw [params] at hA
  obtain ⟨v0, vs0, d0, ds0, p0, q0, hargs, rfl, rfl, h0, r0⟩ := trodAll_cons hA
  obtain ⟨v1, vs1, d1, ds1, p1, q1, rfl, rfl, rfl, h1, r1⟩ := trodAll_cons r0
  obtain ⟨v2, vs2, d2, ds2, p2, q2, rfl, rfl, rfl, h2, r2⟩ := trodAll_cons r1
  obtain ⟨v3, vs3, d3, ds3, p3, q3, rfl, rfl, rfl, h3, r3⟩ := trodAll_cons r2
  obtain ⟨v4, vs4, d4, ds4, p4, q4, rfl, rfl, rfl, h4, r4⟩ := trodAll_cons r3
  obtain ⟨rfl, rfl, rfl⟩ := trodAll_nil r4
  obtain rfl : args = #[v0, v1, v2, v3, v4] := by cases args; simp_all
  obtain ⟨rfl, rfl⟩ := trodVars_none hV
  exact law_post laidOut rfl ⟨4, rfl, Tryz.underlying4⟩ good ⟨rfl, rfl, rfl⟩ hW'
    (LiveAtoms_law W base v0 d0 p0 (hval 0 _ v0 rfl rfl) h0 v1 d1 p1 (hval 1 _ v1 rfl rfl) h1 v2 d2 p2 (hval 2 _ v2 rfl rfl) h2 v3 d3 p3 (hval 3 _ v3 rfl rfl) h3 v4 d4 p4 (hval 4 _ v4 rfl rfl) h4 hsz)
theorem k0 : Rows.liveAtomsRow.wf (OpenSpec.ofChange Rows.liveAtomsSpec) = true := by kernel_rfl
theorem k3 : Tryz.f5.params.all (Tryz.prog.readableRec ·) = true := by kernel_rfl
theorem k4 : namedTie Tryz.prog Rows.liveAtomsRow.named Rows.liveAtomsSpec.vars = true := by kernel_rfl
theorem k5 : (Rows.liveAtomsRow.stops == []) = true := by kernel_rfl
theorem k7 : (Rows.liveAtomsRow.knobs == []) = true := by kernel_rfl
theorem k9 : (Rows.liveAtomsRow.inPlace == Tryz.prog.inPlace 5) = true := by kernel_rfl
theorem k10 : (Rows.liveAtomsRow.unfollowed == Tryz.prog.unfollowed 5) = true := by kernel_rfl
theorem k11 : (Rows.liveAtomsRow.recurses == Tryz.prog.recurses 5) = true := by kernel_rfl
theorem k12 : (Rows.liveAtomsRow.named == Tryz.prog.varsNamed 5) = true := by kernel_rfl
theorem k13 : (Rows.liveAtomsRow.maps == (Tryz.f5.params.toList ++ Rows.liveAtomsSpec.plain.varTypes Tryz.prog).any (Tryz.prog.mapsRec ·)) = true := by kernel_rfl
theorem k14 : (Rows.liveAtomsRow.ifaces == (Tryz.f5.params.toList ++ Rows.liveAtomsSpec.plain.varTypes Tryz.prog).any (Tryz.prog.ifacesRec ·)) = true := by kernel_rfl
theorem k15 : (Rows.liveAtomsRow.mapsOut == Tryz.prog.mapsAmong Tryz.f5.resultTypes.toList) = true := by kernel_rfl
theorem k16 : (Rows.liveAtomsRow.loops == (Tryz.f5.params.toList ++ Rows.liveAtomsSpec.plain.varTypes Tryz.prog).any (Tryz.prog.loopsFrom ·)) = true := by kernel_rfl
theorem k17 : (Rows.liveAtomsRow.wideKeys == (Tryz.f5.params.toList ++ Rows.liveAtomsSpec.plain.varTypes Tryz.prog ++ Tryz.f5.resultTypes.toList).any (Tryz.prog.wideKeysFrom ·)) = true := by kernel_rfl
theorem k18 : Rows.liveAtomsSpec.vars.all (Tryz.prog.varReadable ·) = true := by kernel_rfl
theorem k19 : Tryz.f5.resultTypes.all (fun t => Tryz.prog.readableRec t && decide (t < Tryz.prog.types.size)) = true := by kernel_rfl
theorem k20 : (Rows.liveAtomsRow.ifacesOut == Tryz.f5.resultTypes.toList.any (Tryz.prog.ifacesRec ·)) = true := by kernel_rfl
theorem k21 : (Rows.liveAtomsRow.loopsOut == Tryz.f5.resultTypes.toList.any (Tryz.prog.loopsFrom ·)) = true := by kernel_rfl
theorem k23 : Rows.liveAtomsRow.shortTexts.isNone = true := by kernel_rfl
theorem k28 : (Rows.liveAtomsRow.kinds == (if Rows.liveAtomsRow.domain.isEmpty then [] else Tryz.f5.params.toList.map fun t => match Tryz.prog.underlying t with | some (.int k) => some k | _ => none)) = true := by kernel_rfl
theorem k29 : (Rows.liveAtomsRow.pinned == Rows.liveAtomsRow.pinnedBy) = true := by kernel_rfl
theorem k30 : (Rows.liveAtomsRow.veiled == (Tryz.f5.params.toList ++ Rows.liveAtomsSpec.plain.varTypes Tryz.prog ++ Tryz.f5.resultTypes.toList).any (Tryz.prog.veiledRec ·)) = true := by kernel_rfl
theorem k31 : Rows.liveAtomsRow.veiledFits Tryz.prog Tryz.f5.params.toList (Tryz.f5.params.toList ++ Rows.liveAtomsSpec.plain.varTypes Tryz.prog ++ Tryz.f5.resultTypes.toList) = true := by kernel_rfl
set_option maxRecDepth 100000 in
theorem closed : joinedFacts Tryz.prog 5 Tryz.f5 Rows.liveAtomsSpec Rows.liveAtomsRow = true := (jf.and_t (jf.and_t (jf.and_t (jf.and_t (jf.and_t (jf.and_t (jf.and_t (jf.and_t (jf.and_t (jf.and_t (jf.and_t (jf.and_t (jf.and_t (jf.and_t (jf.and_t (jf.and_t (jf.and_t (jf.and_t (jf.and_t (jf.and_t (jf.and_t (jf.and_t (jf.and_t (jf.and_t (jf.and_t (jf.and_t (jf.and_t (jf.and_t (jf.and_t (jf.and_t (jf.and_t k0 jf.k1) jf.k2) k3) k4) k5) jf.k6) k7) jf.k8) k9) k10) k11) k12) k13) k14) k15) k16) k17) k18) k19) k20) k21) jf.k22) k23) jf.k24) jf.k25) jf.k26) jf.k27) k28) k29) k30) k31)
theorem named : Tryz.prog.funcNamed Rows.liveAtomsRow.func = some 5 := by kernel_rfl
theorem inst : Tryz.f5.isInstance Tryz.prog Rows.liveAtomsRow.origin Rows.liveAtomsRow.targs := of_decide_eq_true (by kernel_rfl)
theorem wraps : Tryz.f5.isWrapper Tryz.prog Rows.liveAtomsRow.wrapper Rows.liveAtomsRow.mainSum := by unfold Func.isWrapper; first | (rw [if_pos (by decide +kernel)]; kernel_rfl) | (rw [if_neg (by decide +kernel)]; exact ⟨rfl, rfl⟩)
set_option maxRecDepth 100000 in
/-- LiveAtoms: the given statement. -/
theorem proved : Rows.LiveAtomsSaid :=
  OpenClaim.holds_of_wide 5 Tryz.f5 rfl rfl rfl rfl rfl rfl rfl ⟨rfl, rfl, rfl, rfl, rfl⟩ rfl rfl rfl rfl rfl named Tryz.func5 closed inst wraps
    (fun os started H enc _ => lifted os started H enc)
end Go.Proofs.YtdidjpohnopihaaGreat.liveAtoms
