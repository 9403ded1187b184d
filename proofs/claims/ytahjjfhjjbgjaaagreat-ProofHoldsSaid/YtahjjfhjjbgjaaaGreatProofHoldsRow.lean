/- The law ProofHolds of package customhouselaw16, for every input: it returns true and leaves its arguments as they were. Conditions: none beyond those of the given statement. -/
import Derived.Test.YtahjjfhjjbgjaaaGreatRows
import Derived.Test.YtahjjfhjjbgjaaaGreatJf
import Derived.Test.YtahjjfhjjbgjaaaGreatQg
import Derived.Deep.Slices
import Derived.Deep.Fields
import Derived.ChangeSame
import Derived.ProofKit
import Derived.OpenShut
import Derived.JoinedCond
import Derived.SizedLaws
namespace Go.Proofs.YtahjjfhjjbgjaaaGreat
open Go.RowKit Go.WideShapes Go.ChangeShapes Go.Deep
theorem Kp.below {S : Nat → Prop} {B : Nat} {w w' : World} (h : Kp S w w') (hB : B ≤ w.heap.size) (hs : ∀ k, k < B → ¬ S k) : Below B w w' :=
  ⟨h.os, h.tape, h.output, h.size, fun k hk => h.block k (by omega) (hs k hk)⟩
section
variable {H : Type} {enc : TypeId × Value → H} {P : Program}
/-- The row's last step, of a call that left all that was there as it was (after the guide's post_of_below). -/
theorem post_of_below {f : Func} {s : ChangeSpec} {apart fresh handsOn again : Bool} {W W' : World} {args : Array Value} {v : Value} {ds gs : List (DataW H)} {before pa pv : List MemPlace}
    (hW : DataW.Whole enc P f.params.toList s.vars apart W args.toList ds gs before)
    (hres : ∀ (b : Nat) (sp : Nat → Bool) (hd : Bool), DataW.TrodAll enc P W' b sp hd f.resultTypes.toList (v.resultList f.resultTypes.size) (s.fn H (ds ++ gs)).results [])
    (hargs : ∀ sp : Nat → Bool, (∀ p ∈ before, sp p.block = true) → DataW.TrodAll enc P W' 0 sp true f.params.toList args.toList (s.fn H (ds ++ gs)).args pa)
    (hvars : ∀ sp : Nat → Bool, (∀ p ∈ before, sp p.block = true) → DataW.TrodVars enc P W' sp s.vars (s.fn H (ds ++ gs)).vars pv)
    (hps : before = pa ++ pv) (hb : Below W.heap.size W W')
    (hok : ∀ (j : Nat) (t : TypeId) (r : Value), f.resultTypes[j]? = some t → (v.resultList f.resultTypes.size)[j]? = some r → Value.okWide P W' .any 0 t r) :
    s.post enc P f apart fresh handsOn again W args v W' := by
  have hlt : ∀ p ∈ before, p.block < W.heap.size := fun p hp => hW.lt p hp
  have hold : ∀ p ∈ before, (fun b => decide (b < W.heap.size)) p.block = true := fun p hp => by simpa using hlt p hp
  refine ⟨ds, gs, before, [], pa, pv, hW, hres _ _ _, hargs _ hold, hvars _ hold, World.keptBut_mono (fun p hp => ⟨hp, ?_⟩) (hb.frame (· ∈ before)), fun _ => ?_⟩
  · rw [hps, List.mem_append] at hp
    exact Or.inr hp
  · obtain ⟨_, _, _, _, _, hz, hn⟩ := hW
    refine ⟨hok, _, _, ([] ++ pa) ++ pv, ⟨[] ++ pa, pv, trodAll_append (hargs _ (fun _ _ => rfl)) (hres _ _ _), hvars _ (fun _ _ => rfl), rfl, ?_, ?_⟩, ?_⟩
    · intro b off hp
      have hin : MemPlace.cell b off ∈ before := by rw [hps]; simpa using hp
      rw [hb.frozen (hlt _ hin)]
      exact hz b off hin
    · intro ha
      have := hn ha
      rw [hps] at this
      simpa using this
    · intro p hp _
      rw [hps]
      simpa using hp
/-- All arguments read as they did. -/
theorem all_stays (hl : laidOutB P = true) {W W' : World} (hb : Below W.heap.size W W') {sp' : Nat → Bool} : ∀ {ts : List TypeId} {vs : List Value} {ds : List (DataW H)} {ps : List MemPlace},
    (∀ t ∈ ts, P.readableRec t = true ∧ t < P.types.size) → DataW.TrodAll enc P W 0 (fun _ => true) true ts vs ds ps → (∀ p ∈ ps, p.block < W.heap.size) → (∀ p ∈ ps, sp' p.block = true) → DataW.TrodAll enc P W' 0 sp' true ts vs ds ps
  | [], [], [], _, _, h, _, _ => h
  | t :: ts, v :: vs, d :: ds, ps, hr, h, hlt, hs => by
    obtain ⟨p, q, h1, h2, rfl⟩ := h
    refine ⟨p, q, WideElems.Trod_stays hl (hr t (by simp)).1 (hr t (by simp)).2 h1 (fun x hx => hb.same (hlt x (by simp [hx]))) (fun x hx => hs x (by simp [hx])), ?_, rfl⟩
    exact all_stays hl hb (fun t ht => hr t (by simp [ht])) h2 (fun x hx => hlt x (by simp [hx])) (fun x hx => hs x (by simp [hx]))
end

/-- A law's row: for whatever reads, the call returns true and leaves all as it was. -/
theorem law_post {H : Type} {enc : TypeId × Value → H} {P : Program} {F : Nat} {fn : Func} {s : ChangeSpec} (hl : laidOutB P = true) (hv : s.vars = []) (hrt : ∃ b, fn.resultTypes = #[b] ∧ P.underlying b = some .bool)
    (hr : ∀ t ∈ fn.params.toList, P.readableRec t = true ∧ t < P.types.size) {W : World} {args : Array Value} {ds gs : List (DataW H)} {before : List MemPlace}
    (hs : (s.fn H ds).results = [.lit (.bool true)] ∧ (s.fn H ds).args = ds ∧ (s.fn H ds).vars = [])
    (hW : DataW.Whole enc P fn.params.toList s.vars false W args.toList ds gs before)
    (hcalls : Calls P F args W fun e W' => e = .returned (.bool true) ∧ Kp No W W') :
    Calls P F args W fun e W' => ∃ v, e = .returned v ∧ s.post enc P fn false true false false W args v W' := by
  refine hcalls.mono fun e W' ⟨he, hk⟩ => ⟨.bool true, he, ?_⟩
  have hb : Below W.heap.size W W' := hk.below (Nat.le_refl _) fun k _ h => h
  have hlt : ∀ p ∈ before, p.block < W.heap.size := fun p hp => hW.lt p hp
  have hW0 := hW
  obtain ⟨p, q, hA, hV, hpq, hz, hn⟩ := hW0
  rw [hv] at hV
  obtain ⟨rfl, rfl⟩ := trodVars_none hV
  obtain ⟨b, hb1, hb2⟩ := hrt
  rw [List.append_nil] at hpq
  subst hpq
  refine post_of_below (pa := before) (pv := []) hW (fun _ _ _ => ?_) (fun sp hsp => ?_) (fun _ _ => ?_) (by simp) hb ?_
  · rw [List.append_nil, hs.1, hb1]
    exact trodAll_mk1 (shut_bool hb2 _)
  · rw [List.append_nil, hs.2.1]
    exact all_stays hl hb hr hA hlt hsp
  · rw [List.append_nil, hs.2.2, hv]
    rfl
  · rw [hb1]
    intro j t r hj hr
    cases j with
    | zero =>
      have e1 : b = t := by simpa using hj
      have e2 : Value.bool true = r := by simpa [Value.resultList] using hr
      rw [← e1, ← e2]
      exact okWide_bool_mk hb2 _
    | succ j => simp at hj
end Go.Proofs.YtahjjfhjjbgjaaaGreat
namespace Go.Proofs.YtahjjfhjjbgjaaaGreat.proofHolds
open Go.ChangeShapes Go.WideShapes Go.ChangeAt Go.RowKit
set_option linter.unusedVariables false
theorem own : ownKnob Tryz.prog.godebug = none := by kernel_rfl
theorem laidOut : laidOutB Tryz.prog = true := by kernel_rfl
theorem params : Tryz.f18.params.toList = [31, 3, 64] := rfl
theorem good : ∀ t ∈ Tryz.f18.params.toList, Tryz.prog.readableRec t = true ∧ t < Tryz.prog.types.size := by
  rw [params]
  intro t ht
  simp only [List.mem_cons, List.not_mem_nil, or_false] at ht
  rcases ht with rfl | rfl | rfl
  · exact ⟨by kernel_rfl, of_decide_eq_true (by kernel_rfl)⟩
  · exact ⟨by kernel_rfl, of_decide_eq_true (by kernel_rfl)⟩
  · exact ⟨by kernel_rfl, of_decide_eq_true (by kernel_rfl)⟩
set_option maxRecDepth 100000 in
theorem lifted (os : Os) (started : os.Started) (H : Type) (enc : TypeId × Value → H) :
    ReturnsInHanded {} Tryz.checked os 18 .any (Rows.proofHoldsSpec.pre6 enc Tryz.prog Tryz.f18 Rows.proofHoldsRow.domain false) (Rows.proofHoldsSpec.post enc Tryz.prog Tryz.f18 false true false false) := by
  refine returnsInHanded_of_change (C := Tryz.checked) own started (by kernel_rfl) Tryz.func18
    (ChangeSpec.witness6 (enc := enc) (C := Tryz.checked) false ⟨#[], #[.agg #[.slice none 0 0, .int .i64 0, .slice none 0 0, .slice none 0 0, .slice none 0 0], .int .i64 0, .agg #[.int .i64 0, .int .i64 0, .int .i64 0, .int .i64 0, .int .i64 0, .int .u64 0, .int .u64 0, .int .i64 0, .int .i64 0, .int .i64 0, .slice none 0 0]], []⟩ 8 (by kernel_rfl) (by kernel_rfl) (by kernel_rfl) (by kernel_rfl)) ?_
  intro W base args ds gs before hval0 hW hcnd _
  have hval : ∀ (j : Nat) t v, Tryz.f18.params[j]? = some t → args[j]? = some v → Value.okWide Tryz.prog W .any base t v := hval0
  have hW' := hW
  obtain ⟨p, q, hA0, hV, rfl, hfz, hnd⟩ := hW
  have hA : DataW.TrodAll enc Tryz.prog W 0 (fun _ => true) true Tryz.f18.params.toList args.toList ds p := hA0
  rw [params] at hA
  obtain ⟨v0, vs0, d0, ds0, p0, q0, hargs, rfl, rfl, h0, r0⟩ := trodAll_cons hA
  obtain ⟨v1, vs1, d1, ds1, p1, q1, rfl, rfl, rfl, h1, r1⟩ := trodAll_cons r0
  obtain ⟨v2, vs2, d2, ds2, p2, q2, rfl, rfl, rfl, h2, r2⟩ := trodAll_cons r1
  obtain ⟨rfl, rfl, rfl⟩ := trodAll_nil r2
  obtain rfl : args = #[v0, v1, v2] := by cases args; simp_all
  exact law_post laidOut rfl ⟨4, rfl, Tryz.underlying4⟩ good ⟨rfl, rfl, rfl⟩ hW'
    (ProofHolds_law W base v0 d0 p0 (hval 0 _ v0 rfl rfl) h0 v1 d1 p1 (hval 1 _ v1 rfl rfl) h1 v2 d2 p2 (hval 2 _ v2 rfl rfl) h2)
theorem k0 : Rows.proofHoldsRow.wf (OpenSpec.ofChange Rows.proofHoldsSpec) = true := by kernel_rfl
theorem k3 : Tryz.f18.params.all (Tryz.prog.readableRec ·) = true := by kernel_rfl
theorem k4 : namedTie Tryz.prog Rows.proofHoldsRow.named Rows.proofHoldsSpec.vars = true := by kernel_rfl
theorem k5 : (Rows.proofHoldsRow.stops == []) = true := by kernel_rfl
theorem k7 : (Rows.proofHoldsRow.knobs == []) = true := by kernel_rfl
theorem k9 : (Rows.proofHoldsRow.inPlace == Tryz.prog.inPlace 18) = true := by kernel_rfl
theorem k10 : (Rows.proofHoldsRow.unfollowed == Tryz.prog.unfollowed 18) = true := by kernel_rfl
theorem k11 : (Rows.proofHoldsRow.recurses == Tryz.prog.recurses 18) = true := by kernel_rfl
theorem k12 : (Rows.proofHoldsRow.named == Tryz.prog.varsNamed 18) = true := by kernel_rfl
theorem k13 : (Rows.proofHoldsRow.maps == (Tryz.f18.params.toList ++ Rows.proofHoldsSpec.plain.varTypes Tryz.prog).any (Tryz.prog.mapsRec ·)) = true := by kernel_rfl
theorem k14 : (Rows.proofHoldsRow.ifaces == (Tryz.f18.params.toList ++ Rows.proofHoldsSpec.plain.varTypes Tryz.prog).any (Tryz.prog.ifacesRec ·)) = true := by kernel_rfl
theorem k15 : (Rows.proofHoldsRow.mapsOut == Tryz.prog.mapsAmong Tryz.f18.resultTypes.toList) = true := by kernel_rfl
theorem k16 : (Rows.proofHoldsRow.loops == (Tryz.f18.params.toList ++ Rows.proofHoldsSpec.plain.varTypes Tryz.prog).any (Tryz.prog.loopsFrom ·)) = true := by kernel_rfl
theorem k17 : (Rows.proofHoldsRow.wideKeys == (Tryz.f18.params.toList ++ Rows.proofHoldsSpec.plain.varTypes Tryz.prog ++ Tryz.f18.resultTypes.toList).any (Tryz.prog.wideKeysFrom ·)) = true := by kernel_rfl
theorem k18 : Rows.proofHoldsSpec.vars.all (Tryz.prog.varReadable ·) = true := by kernel_rfl
theorem k19 : Tryz.f18.resultTypes.all (fun t => Tryz.prog.readableRec t && decide (t < Tryz.prog.types.size)) = true := by kernel_rfl
theorem k20 : (Rows.proofHoldsRow.ifacesOut == Tryz.f18.resultTypes.toList.any (Tryz.prog.ifacesRec ·)) = true := by kernel_rfl
theorem k21 : (Rows.proofHoldsRow.loopsOut == Tryz.f18.resultTypes.toList.any (Tryz.prog.loopsFrom ·)) = true := by kernel_rfl
theorem k23 : Rows.proofHoldsRow.shortTexts.isNone = true := by kernel_rfl
theorem k28 : (Rows.proofHoldsRow.kinds == (if Rows.proofHoldsRow.domain.isEmpty then [] else Tryz.f18.params.toList.map fun t => match Tryz.prog.underlying t with | some (.int k) => some k | _ => none)) = true := by kernel_rfl
theorem k29 : (Rows.proofHoldsRow.pinned == Rows.proofHoldsRow.pinnedBy) = true := by kernel_rfl
theorem k30 : (Rows.proofHoldsRow.veiled == (Tryz.f18.params.toList ++ Rows.proofHoldsSpec.plain.varTypes Tryz.prog ++ Tryz.f18.resultTypes.toList).any (Tryz.prog.veiledRec ·)) = true := by kernel_rfl
theorem k31 : Rows.proofHoldsRow.veiledFits Tryz.prog Tryz.f18.params.toList (Tryz.f18.params.toList ++ Rows.proofHoldsSpec.plain.varTypes Tryz.prog ++ Tryz.f18.resultTypes.toList) = true := by kernel_rfl
set_option maxRecDepth 100000 in
theorem closed : joinedFacts Tryz.prog 18 Tryz.f18 Rows.proofHoldsSpec Rows.proofHoldsRow = true := (jf.and_t (jf.and_t (jf.and_t (jf.and_t (jf.and_t (jf.and_t (jf.and_t (jf.and_t (jf.and_t (jf.and_t (jf.and_t (jf.and_t (jf.and_t (jf.and_t (jf.and_t (jf.and_t (jf.and_t (jf.and_t (jf.and_t (jf.and_t (jf.and_t (jf.and_t (jf.and_t (jf.and_t (jf.and_t (jf.and_t (jf.and_t (jf.and_t (jf.and_t (jf.and_t (jf.and_t k0 jf.k1) jf.k2) k3) k4) k5) jf.k6) k7) jf.k8) k9) k10) k11) k12) k13) k14) k15) k16) k17) k18) k19) k20) k21) jf.k22) k23) jf.k24) jf.k25) jf.k26) jf.k27) k28) k29) k30) k31)
theorem named : Tryz.prog.funcNamed Rows.proofHoldsRow.func = some 18 := by kernel_rfl
theorem inst : Tryz.f18.isInstance Tryz.prog Rows.proofHoldsRow.origin Rows.proofHoldsRow.targs := of_decide_eq_true (by kernel_rfl)
theorem wraps : Tryz.f18.isWrapper Tryz.prog Rows.proofHoldsRow.wrapper Rows.proofHoldsRow.mainSum := by unfold Func.isWrapper; first | (rw [if_pos (by decide +kernel)]; kernel_rfl) | (rw [if_neg (by decide +kernel)]; exact ⟨rfl, rfl⟩)
set_option maxRecDepth 100000 in
/-- ProofHolds: the given statement. -/
theorem proved : Rows.ProofHoldsSaid :=
  OpenClaim.holds_of_wide 18 Tryz.f18 rfl rfl rfl rfl rfl rfl rfl ⟨rfl, rfl, rfl, rfl, rfl⟩ rfl rfl rfl rfl rfl named Tryz.func18 closed inst wraps
    (fun os started H enc _ => lifted os started H enc)
end Go.Proofs.YtahjjfhjjbgjaaaGreat.proofHolds
