/- Functions that write blocks which their caller owns: contracts, over any program. The call of a function that writes its caller's blocks. Over any program. The call of a function that writes its caller's blocks, reckoned. Over any program. A block given up to those that nobody writes; results in variables; slices that may be nil. Over any program. -/
import Derived.Test.YtpaldbejnbcokaaSm2
import Derived.Laws.ResultCell
section
namespace Go.Proofs.Ytpaldbejnbcokaa.Sm
open Go.RowKit
set_option linter.unusedVariables false
set_option linter.unusedSimpArgs false

/-- A value told anew, where blocks have other numbers: π, pairs of numbers. -/
inductive Rm (π : List (Nat × Nat)) (σ σ' : Sto) : AV → AV → Prop where
  | any (x : AV) : Rm π σ σ' x .any
  | pu {x : AV} (h : x.pu1 = true) : Rm π σ σ' x x
  | nil : Rm π σ σ' (.raw (.slice none 0 0)) (.sl [])
  | own {id id' ep ep' off : Nat} {bd bd' : Body} (hm : (id, id') ∈ π) (h : σ id = ⟨ep, some bd⟩) (h' : σ' id' = ⟨ep', some bd'⟩) : Rm π σ σ' (.own id ep off) (.own id' ep' off)
  | row {id id' ep ep' off n t m : Nat} {els : List (List AV)} (hm : (id, id') ∈ π) (h : σ id = ⟨ep, some (.row t m els)⟩) (h' : σ' id' = ⟨ep', some (.row t m els)⟩) : Rm π σ σ' (.row id ep off n) (.row id' ep' off n)
  | agg {cs cs' : List AV} (hl : cs'.length = cs.length) (h1 : ∀ (j : Nat) (x : AV), cs'[j]? = some x → x.one = true) (h : ∀ (j : Nat) (x x' : AV), cs[j]? = some x → cs'[j]? = some x' → Rm π σ σ' x x') : Rm π σ σ' (.agg cs) (.agg cs')
  | tup {cs cs' : List AV} (hl : cs'.length = cs.length) (h : ∀ (j : Nat) (x x' : AV), cs[j]? = some x → cs'[j]? = some x' → Rm π σ σ' x x') : Rm π σ σ' (.tup cs) (.tup cs')
theorem Rm.is {π : List (Nat × Nat)} {σ σ' : Sto} {x y : AV} (e : x = y) (h : y.pu1 = true) : Rm π σ σ' x y := by subst e; exact .pu h
theorem Rm.rel {W : World} {F : Nat → Prop} {π : List (Nat × Nat)} {μ μ' : Mu} {σ σ' : Sto} (hμ : ∀ p ∈ π, μ' p.2 = μ p.1) {x x' : AV} (h : Rm π σ σ' x x') : ∀ {v : Value}, Rel W F μ σ x v → Rel W F μ' σ' x' v := by
  induction h with
  | any x => exact fun _ => .any _
  | pu h => exact fun hx => .pure (pu1_rel h hx)
  | nil =>
    intro v hx
    rw [hx.raw']
    exact .pure (nil_sl _ _)
  | @own id id' ep ep' off bd bd' hm h h' =>
    intro v hx
    cases hx with
    | pure hx => cases hx
    | own _ _ _ _ he h1 hv =>
      obtain ⟨b, c, hb, rfl⟩ := hv _ h
      exact .own _ _ _ _ (by rw [h']; exact Nat.le_refl _) rfl fun _ _ => ⟨b, c, (hμ _ hm).trans hb, rfl⟩
  | @row id id' ep ep' off n t m els hm h h' =>
    intro v hx
    cases hx with
    | pure hx => cases hx
    | row _ _ _ _ _ he h1 hv =>
      have hv := hv _ _ _ h
      refine .row _ _ _ _ _ (by rw [h']; exact Nat.le_refl _) h1 fun t1 m1 els1 h2 => ?_
      rw [h'] at h2
      simp only [SB.mk.injEq, Option.some.injEq, Body.row.injEq, true_and] at h2
      have e := hμ _ hm
      simp only at e
      rw [← h2.2.1, ← h2.2.2, e]
      exact hv
  | @agg cs cs' hl h1 h ih =>
    intro v hx
    obtain ⟨vs, rfl, hlv, _, hr⟩ := hx.agg'
    refine .agg _ _ (by rw [hlv, hl]) h1 fun j x' v hj hv => ?_
    obtain ⟨x, hxj⟩ : ∃ x, cs[j]? = some x := ⟨_, List.getElem?_eq_getElem (by rw [← hl]; exact (List.getElem?_eq_some_iff.1 hj).1)⟩
    exact ih j x x' hxj hj (hr j x v hxj hv)
  | @tup cs cs' hl h ih =>
    intro v hx
    obtain ⟨vs, rfl, hlv, hr⟩ := hx.tup'
    refine .tup _ _ (by rw [hlv, hl]) fun j x' v hj hv => ?_
    obtain ⟨x, hxj⟩ : ∃ x, cs[j]? = some x := ⟨_, List.getElem?_eq_getElem (by rw [← hl]; exact (List.getElem?_eq_some_iff.1 hj).1)⟩
    exact ih j x x' hxj hj (hr j x v hxj hv)

/-- A function that is handed blocks (b0) and leaves them so (b1). -/
structure MDoes (P : Program) (f : FuncId) (args : List AV) (b0 : List (Nat × SB)) (r : AV) (b1 : List (Nat × SB)) : Prop where
  fn : ∃ fn c, P.funcs[f]? = some fn ∧ fn.body = some c ∧ (fn.name == "runtime.NumGoroutine") = false
  calls : ∀ (W : World) (F : Nat → Prop) (μ : Mu) (vs : List Value), vs.length = args.length → (∀ (j : Nat) (x : AV) (v : Value), args[j]? = some x → vs[j]? = some v → Rel W F μ (lkB b0) x v) → Inv W F μ (lkB b0) →
    Calls P f vs.toArray W fun e W' => ∃ v F' μ', e = .returned v ∧ Inv W' F' μ' (lkB b1) ∧ Stq W F μ (lkB b0) W' F' μ' (lkB b1) ∧ Rel W' F' μ' (lkB b1) r v
/-- The end of such a function. -/
def retM (P : Program) (fn : Func) (r : AV) (b1 : List (Nat × SB)) (e : Exit) (s : St) : Prop := (e = .normal ∨ e = .ret) ∧ ∃ x, ResOk P fn s x ∧ Rm (b1.map fun p => (p.1, p.1)) s.σ (lkB b1) x r ∧ WkB s (lkB b1) b1
def stM (args : List AV) (b0 : List (Nat × SB)) : St := ⟨fun t => args.getD t (.tup []), lkB b0⟩
theorem MDoes.of_body {P : Program} {f : FuncId} {fn : Func} {c : Code} {args : List AV} {b0 b1 : List (Nat × SB)} {r : AV} {N : Nat} (hf : P.funcs[f]? = some fn) (hb : fn.body = some c) (hn : (fn.name == "runtime.NumGoroutine") = false) (hN : fn.ntmps = N) (hlen : Nat.ble args.length N = true)
    (h : AW P N c (retM P fn r b1) (stM args b0)) : MDoes P f args b0 r b1 := by
  subst hN
  have hlen := Nat.le_of_ble_eq_true hlen
  refine ⟨⟨fn, c, hf, hb, hn⟩, fun W F μ vs hl hv hi => ?_⟩
  have hr : RS fn.ntmps W F μ (stM args b0) { tmps := vs.toArray ++ Array.replicate (fn.ntmps - vs.toArray.size) undef, defers := [] } := by
    refine ⟨fun t => ?_, rfl, by simp; omega, hi⟩
    show Rel W F _ _ (args.getD t (.tup [])) _
    rw [Array.getD_eq_getD_getElem?, Array.getElem?_append, List.getD_eq_getElem?_getD]
    by_cases ht : t < args.length
    · have h1 : args[t]? = some args[t] := List.getElem?_eq_getElem ht
      have h2 : vs[t]? = some vs[t] := List.getElem?_eq_getElem (by omega)
      rw [if_pos (by simp; omega), List.getElem?_toArray, h1, h2]
      exact hv t _ _ h1 h2
    · rw [if_neg (by simp; omega), List.getElem?_eq_none (by omega)]
      have : (Array.replicate (fn.ntmps - vs.toArray.size) undef)[t - vs.toArray.size]?.getD undef = undef := by
        rw [Array.getElem?_replicate]
        split <;> rfl
      rw [this]
      exact .pure (.tup [] [] rfl (by simp))
  refine calls_of_wp hf hb (Code.wp_mono ?_ (h W F μ _ hr))
  rintro e a' W' ⟨F', μ', s', ⟨he, x, hres, hx, hB⟩, hr', hs⟩
  obtain ⟨v, hrun, hxv⟩ := hres W' F' μ' a' hr'
  have hwk : Wk s' ⟨fun _ => .any, lkB b1⟩ := ⟨fun _ => .any _, wkB_ok hB⟩
  have hrs := hwk.rs hr'
  have hfin : Stq W F μ (lkB b0) W' F' μ' (lkB b1) := hs.trans (hwk.stp W' F' μ')
  have hrel : Rel W' F' μ' (lkB b1) r v := hx.rel (fun p hp => by
    obtain ⟨q, _, rfl⟩ := List.mem_map.1 hp
    rfl) hxv
  rcases he with rfl | rfl <;> exact ⟨hr'.defers, v, hrun, v, F', μ', rfl, hrs.inv, hfin, hrel⟩
end Go.Proofs.Ytpaldbejnbcokaa.Sm
end
section
namespace Go.Proofs.Ytpaldbejnbcokaa.Sm
open Go.RowKit
set_option linter.unusedVariables false
set_option linter.unusedSimpArgs false

theorem Rm.congr {π : List (Nat × Nat)} {σ σ2 σ' : Sto} (hσ : ∀ p ∈ π, σ2 p.1 = σ p.1) {x x' : AV} (h : Rm π σ σ' x x') : Rm π σ2 σ' x x' := by
  induction h with
  | any x => exact .any x
  | pu h => exact .pu h
  | nil => exact .nil
  | own hm h h' => exact .own hm ((hσ _ hm).trans h) h'
  | row hm h h' => exact .row hm ((hσ _ hm).trans h) h'
  | agg hl h1 _ ih => exact .agg hl h1 ih
  | tup hl _ ih => exact .tup hl ih
/-- A block told anew, with other numbers. -/
inductive RmB (π : List (Nat × Nat)) (σ σ' : Sto) : Body → Body → Prop where
  | box {t : TypeId} {cs cs' : List AV} (hl : cs'.length = cs.length) (h1 : ∀ (j : Nat) (x : AV), cs'[j]? = some x → x.one = true) (h : ∀ (j : Nat) (x x' : AV), cs[j]? = some x → cs'[j]? = some x' → Rm π σ σ' x x') : RmB π σ σ' (.box t cs) (.box t cs')
  | row (t : TypeId) (m : Nat) (els : List (List AV)) : RmB π σ σ' (.row t m els) (.row t m els)
theorem RmB.congr {π : List (Nat × Nat)} {σ σ2 σ' : Sto} (hσ : ∀ p ∈ π, σ2 p.1 = σ p.1) {x x' : Body} (h : RmB π σ σ' x x') : RmB π σ2 σ' x x' := by
  cases h with
  | box hl h1 h => exact .box hl h1 fun j x x' g g' => (h j x x' g g').congr hσ
  | row t m els => exact .row t m els
theorem RmB.rel {W : World} {F : Nat → Prop} {π : List (Nat × Nat)} {μ μ' : Mu} {σ σ' : Sto} (hμ : ∀ p ∈ π, μ' p.2 = μ p.1) {bd bd' : Body} (h : RmB π σ σ' bd bd') {p : Option (Nat × Nat)} (hb : BodyRel W F μ σ p bd) : BodyRel W F μ' σ' p bd' := by
  cases h with
  | row t m els => exact hb
  | @box t cs cs' hl h1 hrn =>
    obtain ⟨b, c, vs, hm, hw, hlv, hv⟩ := hb
    refine ⟨b, c, vs, hm, hw, by rw [hlv, hl], fun j x' v hj hvj => ⟨h1 j x' hj, ?_⟩⟩
    obtain ⟨x, hxj⟩ : ∃ x, cs[j]? = some x := ⟨_, List.getElem?_eq_getElem (by rw [← hl]; exact (List.getElem?_eq_some_iff.1 hj).1)⟩
    exact (hrn j x x' hxj hj).rel hμ (hv j x v hxj hvj).2
/-- Where the handed blocks lie, by the callee's numbers. -/
def muOf (μ : Mu) : List (Nat × Nat) → Mu
  | [], _ => none
  | p :: π, k => if k = p.2 then μ p.1 else muOf μ π k
theorem muOf_some {μ : Mu} : ∀ {π : List (Nat × Nat)} {k : Nat} {x : Nat × Nat}, muOf μ π k = some x → ∃ p ∈ π, p.2 = k ∧ μ p.1 = some x
  | [], _, _, h => by cases h
  | p :: π, k, x, h => by
    unfold muOf at h
    split at h
    · rename_i e
      exact ⟨p, by simp, e.symm, h⟩
    · obtain ⟨q, h1, h2, h3⟩ := muOf_some h
      exact ⟨q, by simp [h1], h2, h3⟩
theorem muOf_in {μ : Mu} : ∀ {π : List (Nat × Nat)}, (π.map (·.2)).Nodup → ∀ p ∈ π, muOf μ π p.2 = μ p.1
  | [], _, p, hp => by cases hp
  | q :: π, hn, p, hp => by
    rw [List.map_cons, List.nodup_cons] at hn
    unfold muOf
    rcases List.mem_cons.1 hp with rfl | hp
    · rw [if_pos rfl]
    · rw [if_neg (fun e => hn.1 (by rw [← e]; exact List.mem_map_of_mem (f := (·.2)) hp))]
      exact muOf_in hn.2 p hp
/-- What is handed, as the callee's store. -/
theorem give_inv {W : World} {F : Nat → Prop} {μ : Mu} {σ σ0 : Sto} {π : List (Nat × Nat)} (hi : Inv W F μ σ) (hn : (π.map (·.2)).Nodup) (hn1 : (π.map (·.1)).Nodup)
    (hB : ∀ k bd', (σ0 k).body = some bd' → (∃ p ∈ π, p.2 = k ∧ ∃ bd, (σ p.1).body = some bd ∧ RmB π σ σ0 bd bd') ∨ (∃ i e q, bd' = .ghost i e q ∧ e ≤ (σ0 i).ep ∧ muOf μ π i = q ∧ muOf μ π k = none)) : Inv W F (muOf μ π) σ0 := by
  have own : ∀ k b c, (σ0 k).body.isSome = true → muOf μ π k = some (b, c) → ∃ p ∈ π, p.2 = k ∧ μ p.1 = some (b, c) ∧ (σ p.1).body.isSome = true := fun k b c hs hm => by
    obtain ⟨bd', e⟩ := Option.isSome_iff_exists.1 hs
    rcases hB k bd' e with ⟨p, hp, rfl, bd, h1, _⟩ | ⟨_, _, _, _, _, _, h⟩
    · exact ⟨p, hp, rfl, (muOf_in hn p hp).symm.trans hm, by rw [h1]; rfl⟩
    · rw [h] at hm; cases hm
  refine ⟨fun k ep bd' hk => ?_, fun b ⟨k, ep, bd, c, h1, h2⟩ => ?_, fun k k' b c c' h1 h2 h3 h4 => ?_, hi.old⟩
  · rcases hB k bd' (by rw [hk]) with ⟨p, hp, rfl, bd, h1, h2⟩ | ⟨i, e, q, rfl, h1, h2, h3⟩
    · rw [muOf_in hn p hp]
      exact h2.rel (fun q hq => muOf_in hn q hq) (hi.body p.1 (σ p.1).ep bd (by rw [← h1]))
    · exact ⟨h3, h1, fun _ _ => h2⟩
  · obtain ⟨p, hp, rfl, g1, g2⟩ := own k b c (by rw [h1]; rfl) h2
    obtain ⟨bd0, e⟩ := Option.isSome_iff_exists.1 g2
    exact hi.apart b ⟨p.1, (σ p.1).ep, bd0, c, by rw [← e], g1⟩
  · obtain ⟨p, hp, rfl, g1, g2⟩ := own k b c h1 h3
    obtain ⟨q, hq, rfl, g3, g4⟩ := own k' b c' h2 h4
    have e := hi.inj p.1 q.1 b c c' g2 g4 g1 g3
    have : ∀ (l : List (Nat × Nat)), (l.map (·.1)).Nodup → p ∈ l → q ∈ l → p = q := by
      intro l
      induction l with
      | nil => intro _ h; cases h
      | cons a l ih =>
        intro hl h5 h6
        rw [List.map_cons, List.nodup_cons] at hl
        rcases List.mem_cons.1 h5 with g5 | g5 <;> rcases List.mem_cons.1 h6 with g6 | g6
        · rw [g5, g6]
        · exact (hl.1 (by rw [← g5, e]; exact List.mem_map_of_mem (f := (·.1)) g6)).elim
        · exact (hl.1 (by rw [← g6, ← e]; exact List.mem_map_of_mem (f := (·.1)) g5)).elim
        · exact ih hl.2 g5 g6
    rw [this π hn1 hp hq]
open Classical in
/-- Where the caller's blocks lie behind the call. -/
noncomputable def muBk (μ μ1 : Mu) (π : List (Nat × Nat)) (T : List Nat) : Mu := fun id => if id ∈ T then muOf μ1 π id else μ id
/-- What comes back, as the caller's store. T: the numbers that the call touches. -/
theorem back_inv {W W' : World} {F F' : Nat → Prop} {μ μ0 μ1 : Mu} {σ σ0 σ1 σ2 : Sto} {π : List (Nat × Nat)} {T : List Nat} (hi : Inv W F μ σ) (hi1 : Inv W' F' μ1 σ1) (hs : Stq W F μ0 σ0 W' F' μ1 σ1)
    (own0 : ∀ b, Own μ0 σ0 b → ∃ id ∈ T, ∃ ep bd c, σ id = ⟨ep, some bd⟩ ∧ μ id = some (b, c)) (hout : ∀ id, id ∉ T → σ2 id = σ id) (hn : (π.map (·.2)).Nodup) (hn1 : ∀ p ∈ π, ∀ q ∈ π, p.1 = q.1 → p = q) (hT : ∀ p ∈ π, p.2 ∈ T)
    (hup : ∀ id ∈ T, ∀ bd2, (σ2 id).body = some bd2 → ∃ p ∈ π, p.2 = id ∧ ∃ bd, (σ1 p.1).body = some bd ∧ RmB π σ1 σ2 bd bd2) (hep : ∀ id ∈ T, (σ id).ep ≤ (σ2 id).ep)
    (hsame : ∀ id ∈ T, (σ2 id).ep = (σ id).ep → ∀ bd2, (σ2 id).body = some bd2 → ∃ bd, (σ id).body = some bd ∧ bd2.sh = bd.sh ∧ muOf μ1 π id = μ id) :
    Stp W F μ σ W' F' (muBk μ μ1 π T) σ2 ∧ Inv W' F' (muBk μ μ1 π T) σ2 := by
  have muT : ∀ id, id ∈ T → muBk μ μ1 π T id = muOf μ1 π id := fun id h => if_pos h
  have muN : ∀ id, id ∉ T → muBk μ μ1 π T id = μ id := fun id h => if_neg h
  have size := hs.kp.size
  have own0' : ∀ b, Own μ0 σ0 b → Own μ σ b := fun b hb => by
    obtain ⟨id, _, ep, bd, c, h1, h2⟩ := own0 b hb
    exact ⟨id, ep, bd, c, h1, h2⟩
  -- a touched block, by the callee's number
  have tch : ∀ id ∈ T, ∀ b c, (σ2 id).body.isSome = true → muOf μ1 π id = some (b, c) → ∃ p ∈ π, p.2 = id ∧ (σ1 p.1).body.isSome = true ∧ μ1 p.1 = some (b, c) := fun id hid b c h1 h2 => by
    obtain ⟨bd2, e⟩ := Option.isSome_iff_exists.1 h1
    obtain ⟨p, hp, rfl, bd, e1, _⟩ := hup id hid bd2 e
    exact ⟨p, hp, rfl, by rw [e1]; rfl, (muOf_in hn p hp).symm.trans h2⟩
  have tchO : ∀ id ∈ T, ∀ b c, (σ2 id).body.isSome = true → muOf μ1 π id = some (b, c) → Own μ1 σ1 b := fun id hid b c h1 h2 => by
    obtain ⟨p, hp, rfl, g1, g2⟩ := tch id hid b c h1 h2
    obtain ⟨bd, e⟩ := Option.isSome_iff_exists.1 g1
    exact ⟨p.1, (σ1 p.1).ep, bd, c, by rw [← e], g2⟩
  -- an untouched block is none of those that were handed
  have apart0 : ∀ id, id ∉ T → ∀ b c, (σ id).body.isSome = true → μ id = some (b, c) → ¬ Own μ0 σ0 b := fun id hid b c h1 h2 ho => by
    obtain ⟨id', hT', ep, bd, c', g1, g2⟩ := own0 b ho
    have := hi.inj id id' b c c' h1 (by rw [g1]; rfl) h2 g2
    exact hid (this ▸ hT')
  have stp : Stp W F μ σ W' F' (muBk μ μ1 π T) σ2 := by
    refine ⟨hs.kp.mono fun b _ hb => own0' b hb, hs.fro, fun b hb => ?_, fun b ⟨id, ep, bd, c, h1, h2⟩ => ?_, fun id => ?_, fun id he bd2 hb => ?_⟩
    · rcases hs.new b hb with h | h | h
      · exact .inl h
      · exact .inr (.inl (own0' b h))
      · exact .inr (.inr h)
    · by_cases hid : id ∈ T
      · rw [muT id hid] at h2
        rcases hs.own b (tchO id hid b c (by rw [h1]; rfl) h2) with h | h
        · exact .inl (own0' b h)
        · exact .inr h
      · rw [muN id hid] at h2
        rw [hout id hid] at h1
        exact .inl ⟨id, ep, bd, c, h1, h2⟩
    · by_cases hid : id ∈ T
      · exact hep id hid
      · rw [hout id hid]; exact Nat.le_refl _
    · by_cases hid : id ∈ T
      · rw [muT id hid]
        exact hsame id hid he bd2 hb
      · rw [hout id hid] at hb
        exact ⟨bd2, hb, rfl, muN id hid⟩
  refine ⟨stp, fun id ep bd hb => ?_, fun b ⟨id, ep, bd, c, h1, h2⟩ => ?_, fun id id' b c c' h1 h2 h3 h4 => ?_, hi1.old⟩
  · by_cases hid : id ∈ T
    · obtain ⟨p, hp, rfl, bd1, e1, hR⟩ := hup id hid bd (by rw [hb])
      rw [muT _ hid, muOf_in hn p hp]
      exact hR.rel (fun q hq => (muT _ (hT q hq)).trans (muOf_in hn q hq)) (hi1.body p.1 (σ1 p.1).ep bd1 (by rw [← e1]))
    · rw [hout id hid] at hb
      rw [muN id hid]
      refine (hi.body id ep bd hb).stp hi stp fun b c hm => ?_
      have ho := hi.apart b ⟨id, ep, bd, c, hb, hm⟩
      exact hs.kp.block b ho.1 (apart0 id hid b c (by rw [hb]; rfl) hm)
  · by_cases hid : id ∈ T
    · rw [muT id hid] at h2
      exact hi1.apart b (tchO id hid b c (by rw [h1]; rfl) h2)
    · rw [muN id hid] at h2
      rw [hout id hid] at h1
      have ho := hi.apart b ⟨id, ep, bd, c, h1, h2⟩
      refine ⟨by omega, fun hF => ?_⟩
      rcases hs.new b hF with h | h | h
      · exact ho.2 h
      · exact apart0 id hid b c (by rw [h1]; rfl) h2 h
      · omega
  · have mix : ∀ id id' c c', id ∈ T → id' ∉ T → (σ2 id).body.isSome = true → (σ2 id').body.isSome = true → muBk μ μ1 π T id = some (b, c) → muBk μ μ1 π T id' = some (b, c') → False := fun id id' c c' hid hid' h1 h2 h3 h4 => by
      rw [muT id hid] at h3
      rw [muN id' hid'] at h4
      rw [hout id' hid'] at h2
      obtain ⟨bd', e⟩ := Option.isSome_iff_exists.1 h2
      have ho := hi.apart b ⟨id', (σ id').ep, bd', c', by rw [← e], h4⟩
      rcases hs.own b (tchO id hid b c h1 h3) with h | h
      · exact apart0 id' hid' b c' h2 h4 h
      · omega
    by_cases hid : id ∈ T <;> by_cases hid' : id' ∈ T
    · rw [muT id hid] at h3
      rw [muT id' hid'] at h4
      obtain ⟨p, hp, rfl, g1, g2⟩ := tch id hid b c h1 h3
      obtain ⟨q, hq, rfl, g3, g4⟩ := tch id' hid' b c' h2 h4
      rw [hn1 p hp q hq (hi1.inj p.1 q.1 b c c' g1 g3 g2 g4)]
    · exact (mix id id' c c' hid hid' h1 h2 h3 h4).elim
    · exact (mix id' id c' c hid' hid h2 h1 h4 h3).elim
    · rw [muN id hid] at h3
      rw [muN id' hid'] at h4
      rw [hout id hid] at h1
      rw [hout id' hid'] at h2
      exact hi.inj id id' b c c' h1 h2 h3 h4
theorem Rm.congr2 {π : List (Nat × Nat)} {σ σ' σ2 : Sto} (hσ : ∀ p ∈ π, σ2 p.2 = σ' p.2) {x x' : AV} (h : Rm π σ σ' x x') : Rm π σ σ2 x x' := by
  induction h with
  | any x => exact .any x
  | pu h => exact .pu h
  | nil => exact .nil
  | own hm h h' => exact .own hm h ((hσ _ hm).trans h')
  | row hm h h' => exact .row hm h ((hσ _ hm).trans h')
  | agg hl h1 _ ih => exact .agg hl h1 ih
  | tup hl _ ih => exact .tup hl ih
theorem RmB.congr2 {π : List (Nat × Nat)} {σ σ' σ2 : Sto} (hσ : ∀ p ∈ π, σ2 p.2 = σ' p.2) {x x' : Body} (h : RmB π σ σ' x x') : RmB π σ σ2 x x' := by
  cases h with
  | box hl h1 h => exact .box hl h1 fun j x x' g g' => (h j x x' g g').congr2 hσ
  | row t m els => exact .row t m els
theorem upsC_out : ∀ {l : List (Nat × SB)} {σ : Sto} {id : Nat}, id ∉ l.map (·.1) → ups σ l id = σ id
  | [], _, _, _ => rfl
  | p :: l, σ, id, h => by
    rw [List.map_cons, List.mem_cons, not_or] at h
    show ups (up1 σ p.1 p.2) l id = σ id
    rw [upsC_out h.2]
    show cond (Nat.beq id p.1) p.2 (σ id) = σ id
    cases hb : Nat.beq id p.1
    · rfl
    · exact (h.1 (Nat.eq_of_beq_eq_true hb)).elim
theorem upsC_in : ∀ {l : List (Nat × SB)} {σ σ' : Sto} {id : Nat}, id ∈ l.map (·.1) → ups σ l id = ups σ' l id
  | [], _, _, _, h => by cases h
  | p :: l, σ, σ', id, h => by
    show ups (up1 σ p.1 p.2) l id = ups (up1 σ' p.1 p.2) l id
    by_cases hl : id ∈ l.map (·.1)
    · exact upsC_in hl
    · rw [upsC_out hl, upsC_out hl]
      rw [List.map_cons, List.mem_cons] at h
      have e := h.resolve_right hl
      show cond (Nat.beq id p.1) p.2 (σ id) = cond (Nat.beq id p.1) p.2 (σ' id)
      rw [e, Nat.beq_refl]
      rfl
/-- The marks by which the places of blocks are known behind the call: ks, the numbers of those that keep theirs. -/
def gl (q : Nat → Option (Nat × Nat)) : List Nat → List (Nat × SB) → List (Nat × SB)
  | [], B => B
  | k :: ks, B => (900 + k, ⟨0, some (.ghost k 0 (q k))⟩) :: gl q ks B
theorem gl_lo {q : Nat → Option (Nat × Nat)} {B : List (Nat × SB)} {k : Nat} (hk : k < 900) : ∀ ks, lkB (gl q ks B) k = lkB B k
  | [] => rfl
  | i :: ks => by
    show cond (Nat.beq k (900 + i)) _ (lkB (gl q ks B) k) = _
    rw [beq_f (by omega), cond_false]
    exact gl_lo hk ks
theorem gl_at {q : Nat → Option (Nat × Nat)} {B : List (Nat × SB)} {k : Nat} : ∀ {ks}, k ∈ ks → lkB (gl q ks B) (900 + k) = ⟨0, some (.ghost k 0 (q k))⟩
  | i :: ks, h => by
    show cond (Nat.beq (900 + k) (900 + i)) _ (lkB (gl q ks B) (900 + k)) = _
    by_cases e : k = i
    · rw [e, beq_t, cond_true]
    · rw [beq_f (by omega), cond_false]
      exact gl_at ((List.mem_cons.1 h).resolve_left e)
theorem gl_hi {q : Nat → Option (Nat × Nat)} {B : List (Nat × SB)} {k : Nat} {bd : Body} : ∀ {ks}, (lkB (gl q ks B) k).body = some bd → (∃ i, k = 900 + i ∧ bd = .ghost i 0 (q i)) ∨ (lkB B k).body = some bd
  | [], h => .inr h
  | i :: ks, h => by
    replace h : (cond (Nat.beq k (900 + i)) (⟨0, some (.ghost i 0 (q i))⟩ : SB) (lkB (gl q ks B) k)).body = some bd := h
    cases hb : Nat.beq k (900 + i)
    · rw [hb, cond_false] at h
      exact gl_hi h
    · rw [hb, cond_true] at h
      exact .inl ⟨i, Nat.eq_of_beq_eq_true hb, (Option.some.inj h).symm⟩
/-- The call of a function that writes blocks of its caller; ks: the callee's numbers of those that keep their place. -/
theorem oploc_callO {P : Program} {N : Nat} {o : Oper} {c : Call} {fop : Operand} {s : St} {f : FuncId} {first caps zs : List AV} {r r' : AV} {π π' : List (Nat × Nat)} {ks : List Nat} {B0 B1 up : List (Nat × SB)} (ho : o.op = .call c) (hc : c.callee = .value fop) (hf : s.ev fop = .fn f first caps)
    (h : ∀ q, MDoes P f zs (gl q ks B0) r (gl q ks B1))
    (hlen : zs.length = (first ++ (c.args.toList.map s.ev ++ caps)).length)
    (hargs : ∀ (j : Nat) (x z : AV), (first ++ (c.args.toList.map s.ev ++ caps))[j]? = some x → zs[j]? = some z → Rm π s.σ (lkB B0) x z)
    (hn : (π.map (·.2)).Nodup) (hn1 : (π.map (·.1)).Nodup) (h9 : ∀ p ∈ π, p.2 < 900)
    (hB0 : ∀ k bd', (lkB B0 k).body = some bd' → ∃ p ∈ π, p.2 = k ∧ ∃ bd, (s.σ p.1).body = some bd ∧ RmB π s.σ (lkB B0) bd bd')
    (hcov : ∀ p ∈ π, p.1 ∈ up.map (·.1))
    (hn' : (π'.map (·.2)).Nodup) (hn1' : ∀ p ∈ π', ∀ q ∈ π', p.1 = q.1 → p = q) (h9' : ∀ p ∈ π', p.1 < 900) (hT : ∀ p ∈ π', p.2 ∈ up.map (·.1))
    (hup : ∀ id ∈ up.map (·.1), ∀ bd2, (ups s.σ up id).body = some bd2 → ∃ p ∈ π', p.2 = id ∧ ∃ bd, (lkB B1 p.1).body = some bd ∧ RmB π' (lkB B1) (ups s.σ up) bd bd2)
    (hep : ∀ id ∈ up.map (·.1), (s.σ id).ep ≤ (ups s.σ up id).ep)
    (hpin : ∀ id ∈ up.map (·.1), (ups s.σ up id).ep = (s.σ id).ep → ∀ bd2, (ups s.σ up id).body = some bd2 → ∃ k ∈ ks, (id, k) ∈ π ∧ (k, id) ∈ π' ∧ (∃ bd, lkB B1 k = ⟨0, some bd⟩) ∧ ∃ bd, (s.σ id).body = some bd ∧ bd2.sh = bd.sh)
    (hr' : Rm π' (lkB B1) (ups s.σ up) r r') : OpLoc P N o s ⟨r', up, []⟩ := by
  intro s' hev _ hid' W F μ a hr K Q hK
  have hσ : ∀ id ∈ up.map (·.1), s'.σ id = s.σ id := fun id hin => by
    obtain ⟨p, hp, rfl⟩ := List.mem_map.1 hin
    exact hid' p hp
  have hu : ∀ id ∈ up.map (·.1), ups s'.σ up id = ups s.σ up id := fun id hin => upsC_in hin
  have hopers : o.op.operands.toList = fop :: c.args.toList := by
    rw [ho]
    simp [Op.operands, Call.operands, hc]
  have hf' : s'.ev fop = .fn f first caps := (hev fop (by rw [hopers]; simp)).trans hf
  have hargs' : c.args.toList.map s'.ev = c.args.toList.map s.ev := List.map_congr_left fun x hx => hev x (by rw [hopers]; simp [hx])
  have hfv := hr.ev fop
  rw [hf'] at hfv
  obtain ⟨fs, cs, hfe, hfl, hcl, hfr, hcr⟩ := hfv.fn'
  obtain ⟨q, hq⟩ : ∃ q, q = muOf μ π := ⟨_, rfl⟩
  have lo0 : ∀ p ∈ π, lkB (gl q ks B0) p.2 = lkB B0 p.2 := fun p hp => gl_lo (h9 p hp) ks
  have lo1 : ∀ p ∈ π', lkB (gl q ks B1) p.1 = lkB B1 p.1 := fun p hp => gl_lo (h9' p hp) ks
  obtain ⟨fn, bd, g1, g2, g3⟩ := (h q).fn
  unfold Oper.wp
  rw [exec_call ho hc hfe g1 g2 g3]
  show Calls P f _ W _
  have hσπ : ∀ p ∈ π, s'.σ p.1 = s.σ p.1 := fun p hp => hσ p.1 (hcov p hp)
  have hi0 : Inv W F (muOf μ π) (lkB (gl q ks B0)) := give_inv hr.inv hn hn1 fun k bd' hb => by
    rcases gl_hi hb with ⟨i, rfl, rfl⟩ | hb
    · right
      refine ⟨i, 0, q i, rfl, Nat.zero_le _, by rw [hq], ?_⟩
      cases hm : muOf μ π (900 + i) with
      | none => rfl
      | some x =>
        obtain ⟨p, hp, e, _⟩ := muOf_some hm
        have := h9 p hp
        omega
    · obtain ⟨p, hp, e, bd, e1, e2⟩ := hB0 k bd' hb
      exact .inl ⟨p, hp, e, bd, by rw [hσπ p hp]; exact e1, (e2.congr hσπ).congr2 lo0⟩
  have hvl : (fs ++ (c.args.toList.map a.eval ++ cs)).length = zs.length := by rw [hlen]; simp [hfl, hcl]
  refine ((h q).calls W F (muOf μ π) (fs ++ (c.args.toList.map a.eval ++ cs)) hvl (fun j z v hz hv => ?_) hi0).mono ?_
  · obtain ⟨x, hx⟩ : ∃ x, (first ++ (c.args.toList.map s.ev ++ caps))[j]? = some x := ⟨_, List.getElem?_eq_getElem (by rw [← hlen]; exact (List.getElem?_eq_some_iff.1 hz).1)⟩
    refine (((hargs j x z hx hz).congr hσπ).congr2 lo0).rel (fun p hp => muOf_in hn p hp) ?_
    rw [← hargs'] at hx
    rw [List.getElem?_append] at hx hv
    rw [hfl] at hv
    split at hx
    · rename_i hlt
      rw [if_pos hlt] at hv
      exact hfr j x v hx hv
    · rename_i hlt
      rw [if_neg hlt] at hv
      rw [List.getElem?_append] at hx hv
      simp only [List.length_map] at hx hv
      split at hx
      · rename_i hlt2
        rw [if_pos hlt2] at hv
        rw [List.getElem?_map] at hx hv
        cases hq : c.args.toList[j - first.length]? with
        | none => rw [hq] at hx; cases hx
        | some q =>
          rw [hq] at hx hv
          obtain rfl : s'.ev q = x := by simpa using hx
          obtain rfl : a.eval q = v := by simpa using hv
          exact hr.ev q
      · rename_i hlt2
        rw [if_neg hlt2] at hv
        exact hcr _ x v hx hv
  · rintro e W' ⟨v, F', μ1, rfl, hi1, hs1, hv⟩
    obtain ⟨hs, hi⟩ := back_inv (σ2 := ups s'.σ up) (T := up.map (·.1)) hr.inv hi1 hs1 (fun b ⟨k, ep, bd, c, e1, e2⟩ => by
        obtain ⟨p, hp, rfl, e3⟩ := muOf_some e2
        rw [lo0 p hp] at e1
        obtain ⟨p', hp', e4, bd', e5, _⟩ := hB0 p.2 bd (show (lkB B0 p.2).body = some bd by rw [e1])
        have e6 : μ p'.1 = some (b, c) := by have g := muOf_in (μ := μ) hn p' hp'; rw [e4] at g; exact g.symm.trans e2
        exact ⟨p'.1, hcov p' hp', (s'.σ p'.1).ep, bd', c, by rw [hσπ p' hp', ← e5], e6⟩)
      (fun id hid => upsC_out hid) hn' hn1' hT
      (fun id hid bd2 hb => by
        rw [hu id hid] at hb
        obtain ⟨p, hp, e1, bd, e2, e3⟩ := hup id hid bd2 hb
        exact ⟨p, hp, e1, bd, by rw [lo1 p hp]; exact e2, (e3.congr2 fun p hp => hu _ (hT p hp)).congr lo1⟩)
      (fun id hid => by rw [hu id hid, hσ id hid]; exact hep id hid)
      (fun id hid he bd2 hb => by
        rw [hu id hid] at hb he
        rw [hσ id hid] at he
        obtain ⟨k, hk, m1, m2, ⟨bd1, e1⟩, bd, e2, e3⟩ := hpin id hid he bd2 hb
        refine ⟨bd, by rw [hσ _ hid]; exact e2, e3, ?_⟩
        have hg := hi1.body (900 + k) 0 (.ghost k 0 (q k)) (gl_at hk)
        have h1 : μ1 k = q k := hg.2.2 bd1 ((lo1 _ m2).trans e1)
        exact (muOf_in hn' (k, id) m2).trans (h1.trans (by rw [hq]; exact muOf_in hn (id, k) m1)))
    refine hK W' F' _ _ (hr.put hs hi (dst := o.dst) (x := r') (v := v) ?_) hs
    refine ((hr'.congr lo1).congr2 fun p hp => hu _ (hT p hp)).rel (fun p hp => ?_) hv
    unfold muBk
    rw [if_pos (hT p hp)]
    exact muOf_in hn' p hp
end Go.Proofs.Ytpaldbejnbcokaa.Sm
end
section
namespace Go.Proofs.Ytpaldbejnbcokaa.Sm
open Go.RowKit
set_option linter.unusedVariables false
set_option linter.unusedSimpArgs false

def lkP : List (Nat × Nat) → Nat → Option Nat
  | [], _ => none
  | p :: π, id => cond (Nat.beq id p.1) (some p.2) (lkP π id)
theorem lkP_ok : ∀ {π : List (Nat × Nat)} {id k : Nat}, lkP π id = some k → (id, k) ∈ π
  | [], _, _, h => by cases h
  | p :: π, id, k, h => by
    replace h : cond (Nat.beq id p.1) (some p.2) (lkP π id) = some k := h
    cases hb : Nat.beq id p.1
    · rw [hb, cond_false] at h
      exact List.mem_cons_of_mem _ (lkP_ok h)
    · rw [hb, cond_true] at h
      rw [Nat.eq_of_beq_eq_true hb, ← Option.some.inj h]
      exact List.mem_cons_self
def optL {α : Type} : List (Option α) → Option (List α)
  | [] => some []
  | none :: _ => none
  | some x :: l => match optL l with
    | some r => some (x :: r)
    | none => none
theorem optL_ok {α β : Type} {f : β → Option α} : ∀ {l : List β} {r : List α}, optL (l.map f) = some r → r.length = l.length ∧ ∀ (j : Nat) (x : β) (y : α), l[j]? = some x → r[j]? = some y → f x = some y
  | [], r, h => by
    obtain rfl := Option.some.inj h
    exact ⟨rfl, fun j x y hx => by simp at hx⟩
  | a :: l, r, h => by
    cases ha : f a with
    | none => simp [optL, ha] at h
    | some b =>
      cases hl : optL (l.map f) with
      | none => simp [optL, ha, hl] at h
      | some t =>
        simp only [List.map_cons, optL, ha, hl, Option.some.injEq] at h
        subst h
        obtain ⟨h1, h2⟩ := optL_ok hl
        refine ⟨by simp [h1], fun j x y hx hy => ?_⟩
        cases j with
        | zero =>
          obtain rfl : a = x := by simpa using hx
          obtain rfl : b = y := by simpa using hy
          exact ha
        | succ j => exact h2 j x y (by simpa using hx) (by simpa using hy)
/-- A value with other numbers; e: the epochs there. -/
def rmA1 (π : List (Nat × Nat)) (σ : Sto) (e : Nat → Nat) : AV → Option AV
  | .own id ep off => match lkP π id, σ id with
    | some k, ⟨ep0, some _⟩ => cond (Nat.beq ep0 ep) (some (.own k (e k) off)) none
    | _, _ => none
  | .row id ep off n => match lkP π id, σ id with
    | some k, ⟨ep0, some (.row _ _ _)⟩ => cond (Nat.beq ep0 ep) (some (.row k (e k) off n)) none
    | _, _ => none
  | .any => some .any
  | x => cond x.pu1 (some x) none
def rmA2 (π : List (Nat × Nat)) (σ : Sto) (e : Nat → Nat) : AV → Option AV
  | .agg cs => match optL (cs.map (rmA1 π σ e)) with
    | some r => cond (r.all AV.one) (some (.agg r)) none
    | none => none
  | x => rmA1 π σ e x
def rmA (π : List (Nat × Nat)) (σ : Sto) (e : Nat → Nat) : AV → Option AV
  | .tup cs => match optL (cs.map (rmA2 π σ e)) with
    | some r => some (.tup r)
    | none => none
  | x => rmA2 π σ e x
/-- What the other store holds of π. -/
def RmS (π : List (Nat × Nat)) (σ σ' : Sto) (e : Nat → Nat) : Prop :=
  ∀ p ∈ π, ∀ bd, (σ p.1).body = some bd → ∃ bd', σ' p.2 = ⟨e p.2, some bd'⟩ ∧ ∀ t m els, bd = .row t m els → bd' = .row t m els
theorem rmA1_ok {π : List (Nat × Nat)} {σ σ' : Sto} {e : Nat → Nat} (hS : RmS π σ σ' e) {x x' : AV} (h : rmA1 π σ e x = some x') : Rm π σ σ' x x' := by
  unfold rmA1 at h
  split at h
  · split at h
    · rename_i id ep off o sb k ep0 bd hk hs
      obtain ⟨h1, h2⟩ := cond_none h
      obtain rfl := Nat.eq_of_beq_eq_true h1
      obtain rfl := Option.some.inj h2
      have hm := lkP_ok hk
      obtain ⟨bd', h3, _⟩ := hS _ hm bd (by rw [hs])
      exact .own hm hs h3
    · cases h
  · split at h
    · rename_i id ep off n o sb k ep0 t m els hk hs
      obtain ⟨h1, h2⟩ := cond_none h
      obtain rfl := Nat.eq_of_beq_eq_true h1
      obtain rfl := Option.some.inj h2
      have hm := lkP_ok hk
      obtain ⟨bd', h3, h4⟩ := hS _ hm _ (by rw [hs])
      rw [h4 _ _ _ rfl] at h3
      exact .row hm hs h3
    · cases h
  · obtain rfl := Option.some.inj h
    exact .any _
  · obtain ⟨h1, h2⟩ := cond_none h
    obtain rfl := Option.some.inj h2
    exact .pu h1
theorem rmA2_ok {π : List (Nat × Nat)} {σ σ' : Sto} {e : Nat → Nat} (hS : RmS π σ σ' e) {x x' : AV} (h : rmA2 π σ e x = some x') : Rm π σ σ' x x' := by
  unfold rmA2 at h
  split at h
  · split at h
    · rename_i cs r hr
      obtain ⟨h1, h2⟩ := cond_none h
      obtain rfl := Option.some.inj h2
      obtain ⟨g1, g2⟩ := optL_ok hr
      exact .agg g1 (fun j x hj => List.all_eq_true.1 h1 x (List.mem_of_getElem? hj)) fun j x x' hx hx' => rmA1_ok hS (g2 j x x' hx hx')
    · cases h
  · exact rmA1_ok hS h
theorem rmA_ok {π : List (Nat × Nat)} {σ σ' : Sto} {e : Nat → Nat} (hS : RmS π σ σ' e) {x x' : AV} (h : rmA π σ e x = some x') : Rm π σ σ' x x' := by
  unfold rmA at h
  split at h
  · split at h
    · rename_i cs r hr
      obtain rfl := Option.some.inj h
      obtain ⟨g1, g2⟩ := optL_ok hr
      exact .tup g1 fun j x x' hx hx' => rmA2_ok hS (g2 j x x' hx hx')
    · cases h
  · exact rmA2_ok hS h
/-- No slice is handed as one of no elements. -/
def deN1 (x : AV) : AV := cond (isNilB x) (.sl []) x
def deN : AV → AV
  | .agg cs => .agg (cs.map deN1)
  | x => deN1 x
theorem Rm.deN1 {π : List (Nat × Nat)} {σ σ' : Sto} {x y : AV} (h : Rm π σ σ' x y) : Rm π σ σ' x (deN1 y) := by
  cases hn : isNilB y
  · rw [Sm.deN1, hn]; exact h
  · rw [Sm.deN1, hn]
    obtain rfl := isNilB_ok hn
    cases h with
    | pu h => exact .nil
theorem deN1_one {x : AV} (h : x.one = true) : (deN1 x).one = true := by
  cases hn : isNilB x
  · rw [deN1, hn]; exact h
  · rw [deN1, hn]; rfl
theorem Rm.deN {π : List (Nat × Nat)} {σ σ' : Sto} {x y : AV} (h : Rm π σ σ' x y) : Rm π σ σ' x (deN y) := by
  unfold Sm.deN
  split
  · cases h with
    | pu h => cases h
    | agg hl h1 h =>
      refine .agg (by rw [List.length_map, hl]) (fun j x hj => ?_) fun j x x' hx hx' => ?_
      · rw [List.getElem?_map] at hj
        obtain ⟨y, hy, rfl⟩ := Option.map_eq_some_iff.1 hj
        exact deN1_one (h1 j y hy)
      · rw [List.getElem?_map] at hx'
        obtain ⟨y, hy, rfl⟩ := Option.map_eq_some_iff.1 hx'
        exact (h j x y hx hy).deN1
  · exact h.deN1
def rmB (π : List (Nat × Nat)) (σ : Sto) (e : Nat → Nat) : Body → Option Body
  | .box t cs => match optL (cs.map (rmA1 π σ e)) with
    | some r => cond (r.all AV.one) (some (.box t r)) none
    | none => none
  | .row t m els => some (.row t m els)
  | .ghost _ _ _ => none
theorem rmB_ok {π : List (Nat × Nat)} {σ σ' : Sto} {e : Nat → Nat} (hS : RmS π σ σ' e) {x x' : Body} (h : rmB π σ e x = some x') : RmB π σ σ' x x' := by
  unfold rmB at h
  split at h
  · split at h
    · rename_i t cs r hr
      obtain ⟨h1, h2⟩ := cond_none h
      obtain rfl := Option.some.inj h2
      obtain ⟨g1, g2⟩ := optL_ok hr
      exact .box g1 (fun j x hj => List.all_eq_true.1 h1 x (List.mem_of_getElem? hj)) fun j x x' hx hx' => rmA1_ok hS (g2 j x x' hx hx')
    · cases h
  · obtain rfl := Option.some.inj h
    exact .row _ _ _
  · cases h
/-- The blocks of π, with other numbers. -/
def rmS (π0 : List (Nat × Nat)) (σ : Sto) (e : Nat → Nat) : List (Nat × Nat) → Option (List (Nat × SB))
  | [] => some []
  | p :: π => match σ p.1 with
    | ⟨_, some bd⟩ => match rmB π0 σ e bd, rmS π0 σ e π with
      | some bd', some l => some ((p.2, ⟨e p.2, some bd'⟩) :: l)
      | _, _ => none
    | _ => none
theorem rmS_ok {π0 : List (Nat × Nat)} {σ : Sto} {e : Nat → Nat} : ∀ {π : List (Nat × Nat)} {l : List (Nat × SB)}, rmS π0 σ e π = some l → l.map (·.1) = π.map (·.2) ∧
    ∀ q ∈ l, ∃ p ∈ π, p.2 = q.1 ∧ ∃ bd bd', (σ p.1).body = some bd ∧ rmB π0 σ e bd = some bd' ∧ q.2 = ⟨e p.2, some bd'⟩
  | [], l, h => by
    obtain rfl := Option.some.inj h
    exact ⟨rfl, fun q hq => by cases hq⟩
  | p :: π, l, h => by
    unfold rmS at h
    split at h
    · rename_i ep bd hs
      split at h
      · rename_i bd' l' hb hl
        obtain rfl := Option.some.inj h
        obtain ⟨h1, h2⟩ := rmS_ok hl
        refine ⟨by rw [List.map_cons, List.map_cons, h1], fun q hq => ?_⟩
        rcases List.mem_cons.1 hq with rfl | hq
        · exact ⟨p, List.mem_cons_self, rfl, bd, bd', by rw [hs], hb, rfl⟩
        · obtain ⟨p', hp', g⟩ := h2 q hq
          exact ⟨p', List.mem_cons_of_mem _ hp', g⟩
      · cases h
    · cases h
theorem lkB_in : ∀ {l : List (Nat × SB)} {q : Nat × SB}, (l.map (·.1)).Nodup → q ∈ l → lkB l q.1 = q.2
  | a :: l, q, hn, hq => by
    rw [List.map_cons, List.nodup_cons] at hn
    show cond (Nat.beq q.1 a.1) a.2 (lkB l q.1) = q.2
    rcases List.mem_cons.1 hq with rfl | hq
    · rw [beq_t, cond_true]
    · rw [beq_f (fun e => hn.1 (by rw [← e]; exact List.mem_map_of_mem (f := (·.1)) hq)), cond_false]
      exact lkB_in hn.2 hq
theorem lkB_some : ∀ {l : List (Nat × SB)} {k : Nat} {bd : Body}, (lkB l k).body = some bd → ∃ q ∈ l, q.1 = k ∧ q.2 = lkB l k
  | [], k, bd, h => by cases h
  | a :: l, k, bd, h => by
    have e0 : lkB (a :: l) k = cond (Nat.beq k a.1) a.2 (lkB l k) := rfl
    cases hb : Nat.beq k a.1
    · rw [hb, cond_false] at e0
      rw [e0] at h ⊢
      obtain ⟨q, hq, h1, h2⟩ := lkB_some h
      exact ⟨q, List.mem_cons_of_mem _ hq, h1, h2⟩
    · rw [hb, cond_true] at e0
      exact ⟨a, List.mem_cons_self, (Nat.eq_of_beq_eq_true hb).symm, e0.symm⟩
theorem ups_at : ∀ {l : List (Nat × SB)} {σ : Sto} {q : Nat × SB}, (l.map (·.1)).Nodup → q ∈ l → ups σ l q.1 = q.2
  | a :: l, σ, q, hn, hq => by
    rw [List.map_cons, List.nodup_cons] at hn
    show ups (up1 σ a.1 a.2) l q.1 = q.2
    rcases List.mem_cons.1 hq with rfl | hq
    · rw [upsC_out hn.1]
      show cond (Nat.beq q.1 q.1) q.2 _ = q.2
      rw [beq_t, cond_true]
    · exact ups_at hn.2 hq
theorem rmS_RmS {π : List (Nat × Nat)} {σ σ' : Sto} {e : Nat → Nat} {l : List (Nat × SB)} (h : rmS π σ e π = some l) (hl : ∀ q ∈ l, σ' q.1 = q.2) (hn : (π.map (·.2)).Nodup) : RmS π σ σ' e := by
  intro p hp bd hbd
  obtain ⟨h1, h2⟩ := rmS_ok h
  obtain ⟨q, hq, hq1⟩ : ∃ q ∈ l, q.1 = p.2 := List.mem_map.1 (by rw [h1]; exact List.mem_map_of_mem (f := (·.2)) hp)
  obtain ⟨p', hp', e1, bd0, bd', e2, e3, e4⟩ := h2 q hq
  have : ∀ (π : List (Nat × Nat)), (π.map (·.2)).Nodup → p ∈ π → p' ∈ π → p'.2 = p.2 → p' = p := by
    intro π
    induction π with
    | nil => intro _ h; cases h
    | cons a π ih =>
      intro hn h5 h6 he
      rw [List.map_cons, List.nodup_cons] at hn
      rcases List.mem_cons.1 h5 with g5 | g5 <;> rcases List.mem_cons.1 h6 with g6 | g6
      · rw [g5, g6]
      · exact (hn.1 (by rw [← g5, ← he]; exact List.mem_map_of_mem (f := (·.2)) g6)).elim
      · exact (hn.1 (by rw [← g6, he]; exact List.mem_map_of_mem (f := (·.2)) g5)).elim
      · exact ih hn.2 g5 g6 he
  obtain rfl := this π hn hp hp' (e1.trans hq1)
  refine ⟨bd', by rw [← hq1, hl q hq, e4, hq1], fun t m els hr => ?_⟩
  obtain rfl := Option.some.inj (hbd.symm.trans e2)
  subst hr
  exact (Option.some.inj e3).symm
def nodupB : List Nat → Bool
  | [] => true
  | x :: l => l.all (fun y => !Nat.beq x y) && nodupB l
theorem nodupB_ok : ∀ {l : List Nat}, nodupB l = true → l.Nodup
  | [], _ => List.nodup_nil
  | x :: l, h => by
    simp only [nodupB, Bool.and_eq_true] at h
    refine List.nodup_cons.2 ⟨fun hx => ?_, nodupB_ok h.2⟩
    have := List.all_eq_true.1 h.1 x hx
    rw [Nat.beq_refl] at this
    cases this
def shB (a b : Option Body) : Bool := match a, b with
  | some (.box t cs), some (.box t' cs') => Nat.beq t t' && Nat.beq cs.length cs'.length
  | _, _ => false
theorem shB_ok {a b : Option Body} (h : shB a b = true) : ∃ x y, a = some x ∧ b = some y ∧ y.sh = x.sh := by
  unfold shB at h
  split at h
  · rename_i t cs t' cs'
    rw [Bool.and_eq_true] at h
    refine ⟨_, _, rfl, rfl, ?_⟩
    show (true, t', cs'.length, 0) = (true, t, cs.length, 0)
    rw [Nat.eq_of_beq_eq_true h.1, Nat.eq_of_beq_eq_true h.2]
  · cases h
/-- Does the caller's block keep its place? -/
def kept (σ : Sto) (π π' : List (Nat × Nat)) (ks : List Nat) (B1 : List (Nat × SB)) (id : Nat) : Bool := match lkP π id with
  | some k => match lkP π' k, lkB B1 k with
    | some id', ⟨0, some bd⟩ => Nat.beq id' id && ks.any (Nat.beq k) && shB (σ id).body (some bd)
    | _, _ => false
  | none => false
theorem kept_ok {σ : Sto} {π π' : List (Nat × Nat)} {ks : List Nat} {B1 : List (Nat × SB)} {id : Nat} (h : kept σ π π' ks B1 id = true) : ∃ k ∈ ks, (id, k) ∈ π ∧ (k, id) ∈ π' ∧ ∃ bd bd1, lkB B1 k = ⟨0, some bd1⟩ ∧ (σ id).body = some bd ∧ bd1.sh = bd.sh := by
  unfold kept at h
  split at h
  · rename_i k hk
    split at h
    · rename_i id' bd hk' hb
      simp only [Bool.and_eq_true] at h
      obtain rfl := Nat.eq_of_beq_eq_true h.1.1
      obtain ⟨k', hk1, hk2⟩ := List.any_eq_true.1 h.1.2
      obtain rfl := Nat.eq_of_beq_eq_true hk2
      obtain ⟨x, y, e1, e2, e3⟩ := shB_ok h.2
      obtain rfl := Option.some.inj e2
      exact ⟨k, hk1, lkP_ok hk, lkP_ok hk', x, bd, hb, e1, e3⟩
    · cases h
  · cases h
/-- The epochs behind the call. -/
def ep2 (σ : Sto) (π π' : List (Nat × Nat)) (ks : List Nat) (B1 : List (Nat × SB)) (id : Nat) : Nat := cond (kept σ π π' ks B1 id) (σ id).ep ((σ id).ep + 1)
/-- The blocks that were handed and do not come back. -/
def gone (σ : Sto) (π' : List (Nat × Nat)) : List (Nat × Nat) → List (Nat × SB)
  | [] => []
  | p :: π => cond (π'.any fun q => Nat.beq p.1 q.2) (gone σ π' π) ((p.1, ⟨(σ p.1).ep, none⟩) :: gone σ π' π)
theorem gone_in {σ : Sto} {π' : List (Nat × Nat)} : ∀ {π : List (Nat × Nat)} {q : Nat × SB}, q ∈ gone σ π' π → q.2 = ⟨(σ q.1).ep, none⟩ ∧ q.1 ∈ π.map (·.1)
  | [], q, h => by cases h
  | p :: π, q, h => by
    unfold gone at h
    cases hb : π'.any fun q => Nat.beq p.1 q.2
    · rw [hb, cond_false] at h
      rcases List.mem_cons.1 h with rfl | h
      · exact ⟨rfl, by simp⟩
      · exact ⟨(gone_in h).1, List.mem_cons_of_mem _ (gone_in h).2⟩
    · rw [hb, cond_true] at h
      exact ⟨(gone_in h).1, List.mem_cons_of_mem _ (gone_in h).2⟩
theorem gone_all {σ : Sto} {π' : List (Nat × Nat)} : ∀ {π : List (Nat × Nat)} {p : Nat × Nat}, p ∈ π → p.1 ∈ (gone σ π' π).map (·.1) ∨ p.1 ∈ π'.map (·.2)
  | a :: π, p, h => by
    unfold gone
    cases hb : π'.any fun q => Nat.beq a.1 q.2
    · rw [cond_false]
      rcases List.mem_cons.1 h with rfl | h
      · exact .inl (by simp)
      · rcases gone_all (σ := σ) (π' := π') h with h | h
        · exact .inl (List.mem_cons_of_mem _ h)
        · exact .inr h
    · rw [cond_true]
      rcases List.mem_cons.1 h with rfl | h
      · obtain ⟨q, hq, e⟩ := List.any_eq_true.1 hb
        exact .inr (by rw [Nat.eq_of_beq_eq_true e]; exact List.mem_map_of_mem (f := (·.2)) hq)
      · exact gone_all h
def okO (σ : Sto) (π π' : List (Nat × Nat)) (B0 : List (Nat × SB)) : Bool :=
  nodupB (π.map (·.2)) && nodupB (π.map (·.1)) && nodupB (π'.map (·.2)) && nodupB (π'.map (·.1)) && π.all (fun p => Nat.blt p.2 900) && π'.all (fun p => Nat.blt p.1 900) && nodupB (π'.map (·.2) ++ (gone σ π' π).map (·.1))
theorem RG.own {P : Program} {N : Nat} {ops : Array Oper} {rest : List Oper} {s : St} {K : St → List Eff → Prop} {o : Oper} {c : Call} {f : FuncId} {xs zs zs' : List AV} {r r' : AV} {π π' : List (Nat × Nat)} {ks : List Nat} {B0 B0' B1 up0 : List (Nat × SB)} {d : Option Nat}
    (h : ∀ q, MDoes P f zs (gl q ks B0) r (gl q ks B1)) (hg : gd ops s o = some true) (ho : o.op = .call c) (ha : argsA s c = some (f, xs))
    (hz : optL (xs.map (rmA π s.σ (fun _ => 0))) = some zs') (hz' : zs'.map deN = zs) (hb : rmS π s.σ (fun _ => 0) π = some B0') (hb' : B0' = B0)
    (hu : rmS π' (lkB B1) (ep2 s.σ π π' ks B1) π' = some up0) (hr' : rmA π' (lkB B1) (ep2 s.σ π π' ks B1) r = some r') (hk : okO s.σ π π' B0 = true) (hd : o.dst = d)
    (hr : RG P N ops rest ⟨putS N s.ts d r', ups s.σ (up0 ++ gone s.σ π' π)⟩ fun s' Es => K s' (⟨r', up0 ++ gone s.σ π' π, []⟩ :: Es)) : RG P N ops (o :: rest) s K := by
  subst hz' hb' hd
  unfold argsA at ha
  split at ha
  case h_2 => cases ha
  rename_i fop hc
  split at ha
  case h_2 => cases ha
  rename_i f' first caps hf
  simp only [Option.some.injEq, Prod.mk.injEq] at ha
  obtain ⟨rfl, rfl⟩ := ha
  simp only [okO, Bool.and_eq_true] at hk
  obtain ⟨⟨⟨⟨⟨⟨k1, k2⟩, k3⟩, k4⟩, k5⟩, k6⟩, k7⟩ := hk
  have n1 := nodupB_ok k1
  have n3 := nodupB_ok k3
  obtain ⟨u1, u2⟩ := rmS_ok hu
  obtain ⟨b1, b2⟩ := rmS_ok hb
  have hkeys : ((up0 ++ gone s.σ π' π).map (·.1)).Nodup := by rw [List.map_append, u1]; exact nodupB_ok k7
  have hat : ∀ q ∈ up0 ++ gone s.σ π' π, ups s.σ (up0 ++ gone s.σ π' π) q.1 = q.2 := fun q hq => ups_at hkeys hq
  have hS0 : RmS π s.σ (lkB B0') (fun _ => 0) := rmS_RmS hb (fun q hq => lkB_in (by rw [b1]; exact n1) hq) n1
  have hS1 : RmS π' (lkB B1) (ups s.σ (up0 ++ gone s.σ π' π)) (ep2 s.σ π π' ks B1) := rmS_RmS hu (fun q hq => hat q (List.mem_append_left _ hq)) n3
  obtain ⟨z1, z2⟩ := optL_ok hz
  have body2 : ∀ id ∈ (up0 ++ gone s.σ π' π).map (·.1), ∀ bd2, (ups s.σ (up0 ++ gone s.σ π' π) id).body = some bd2 → ∃ p ∈ π', p.2 = id ∧ ups s.σ (up0 ++ gone s.σ π' π) id = ⟨ep2 s.σ π π' ks B1 id, some bd2⟩ ∧ ∃ bd, (lkB B1 p.1).body = some bd ∧ rmB π' (lkB B1) (ep2 s.σ π π' ks B1) bd = some bd2 := fun id hid bd2 hb2 => by
    obtain ⟨q, hq, rfl⟩ := List.mem_map.1 hid
    rw [hat q hq] at hb2 ⊢
    rcases List.mem_append.1 hq with h1 | h1
    · obtain ⟨p, hp, e1, bd, bd', e2, e3, e4⟩ := u2 q h1
      rw [e4] at hb2
      obtain rfl := Option.some.inj hb2
      exact ⟨p, hp, e1, by rw [e4, e1], bd, e2, e3⟩
    · rw [(gone_in h1).1] at hb2
      cases hb2
  refine RG.op hg (oploc_callO (π := π) (π' := π') (ks := ks) ho hc hf h (by rw [List.length_map]; exact z1) (fun j x z hx hz => by
      rw [List.getElem?_map] at hz
      obtain ⟨y, hy, rfl⟩ := Option.map_eq_some_iff.1 hz
      exact (rmA_ok hS0 (z2 j x y hx hy)).deN) n1 (nodupB_ok k2) (fun p hp => Nat.le_of_ble_eq_true (List.all_eq_true.1 k5 p hp)) (fun k bd' hbd => ?_) (fun p hp => ?_) n3
    (fun p hp q hq e => ?_) (fun p hp => Nat.le_of_ble_eq_true (List.all_eq_true.1 k6 p hp)) (fun p hp => ?_) (fun id hid bd2 hb2 => ?_) (fun id hid => ?_) (fun id hid he bd2 hb2 => ?_) (rmA_ok hS1 hr')) hr
  · obtain ⟨q, hq, e1, e2⟩ := lkB_some hbd
    obtain ⟨p, hp, e3, bd, bd1, e4, e5, e6⟩ := b2 q hq
    rw [← e2, e6] at hbd
    obtain rfl := Option.some.inj hbd
    exact ⟨p, hp, e3.trans e1, bd, e4, rmB_ok hS0 e5⟩
  · rw [List.map_append, List.mem_append, u1]
    exact (gone_all hp).symm
  · have : ∀ (l : List (Nat × Nat)), (l.map (·.1)).Nodup → p ∈ l → q ∈ l → p = q := by
      intro l
      induction l with
      | nil => intro _ h; cases h
      | cons a l ih =>
        intro hl h5 h6
        rw [List.map_cons, List.nodup_cons] at hl
        rcases List.mem_cons.1 h5 with g5 | g5 <;> rcases List.mem_cons.1 h6 with g6 | g6
        · rw [g5, g6]
        · exact (hl.1 (by rw [← g5, e]; exact List.mem_map_of_mem (f := (·.1)) g6)).elim
        · exact (hl.1 (by rw [← g6, ← e]; exact List.mem_map_of_mem (f := (·.1)) g5)).elim
        · exact ih hl.2 g5 g6
    exact this π' (nodupB_ok k4) hp hq
  · rw [List.map_append, List.mem_append, u1]
    exact .inl (List.mem_map_of_mem (f := (·.2)) hp)
  · obtain ⟨p, hp, e1, _, bd, e2, e3⟩ := body2 id hid bd2 hb2
    exact ⟨p, hp, e1, bd, e2, rmB_ok hS1 e3⟩
  · obtain ⟨q, hq, rfl⟩ := List.mem_map.1 hid
    rw [hat q hq]
    rcases List.mem_append.1 hq with h1 | h1
    · obtain ⟨p, hp, e1, bd, bd', e2, e3, e4⟩ := u2 q h1
      rw [e4, e1]
      unfold ep2
      cases kept s.σ π π' ks B1 q.1
      · exact Nat.le_succ _
      · exact Nat.le_refl _
    · rw [(gone_in h1).1]; exact Nat.le_refl _
  · obtain ⟨p, hp, e1, e0, bd, e2, e3⟩ := body2 id hid bd2 hb2
    rw [e0] at he
    have hkp : kept s.σ π π' ks B1 id = true := by
      replace he : ep2 s.σ π π' ks B1 id = (s.σ id).ep := he
      unfold ep2 at he
      cases hk : kept s.σ π π' ks B1 id
      · rw [hk, cond_false] at he; omega
      · rfl
    obtain ⟨k, hk, m1, m2, bd0, bd1, g1, g2, g3⟩ := kept_ok hkp
    have hbd : rmB π' (lkB B1) (ep2 s.σ π π' ks B1) bd1 = some bd2 := by
      have : p = (k, id) := by
        have : ∀ (l : List (Nat × Nat)), (l.map (·.2)).Nodup → p ∈ l → (k, id) ∈ l → p = (k, id) := by
          intro l
          induction l with
          | nil => intro _ h; cases h
          | cons a l ih =>
            intro hl h5 h6
            rw [List.map_cons, List.nodup_cons] at hl
            rcases List.mem_cons.1 h5 with g5 | g5 <;> rcases List.mem_cons.1 h6 with g6 | g6
            · rw [g5, g6]
            · exact (hl.1 (by rw [← g5, e1]; exact List.mem_map_of_mem (f := (·.2)) g6)).elim
            · exact (hl.1 (by rw [← g6]; show id ∈ _; rw [← e1]; exact List.mem_map_of_mem (f := (·.2)) g5)).elim
            · exact ih hl.2 g5 g6
        exact this π' n3 hp m2
      rw [this] at e2
      have : bd = bd1 := Option.some.inj (e2.symm.trans (by show (lkB B1 k).body = _; rw [g1]))
      rw [← this]; exact e3
    refine ⟨k, hk, m1, m2, ⟨bd1, g1⟩, bd0, g2, ?_⟩
    rw [← g3]
    have hR := rmB_ok hS1 hbd
    cases hR with
    | box hl _ _ => show (true, _, _, 0) = (true, _, _, 0); rw [hl]
    | row => rfl
def ownR (σ : Sto) (π π' : List (Nat × Nat)) (ks : List Nat) (B1 : List (Nat × SB)) (r : AV) : Option (AV × List (Nat × SB)) :=
  match rmS π' (lkB B1) (ep2 σ π π' ks B1) π', rmA π' (lkB B1) (ep2 σ π π' ks B1) r with
  | some up0, some r' => forceV r' fun r' => forceUN (up0 ++ gone σ π' π) fun up => some (r', up)
  | _, _ => none
/-- The call of a function that writes its caller's blocks. π: (caller's, callee's) numbers of what is handed, π' : (callee's, caller's) of what comes back. -/
theorem RG.ownN {P : Program} {N : Nat} {ops : Array Oper} {rest : List Oper} {ts : Nat → AV} {σ : Sto} {K : St → List Eff → Prop} {o : Oper} {c : Call} {f : FuncId} {xs zs zs' : List AV} {r r' : AV} (π π' : List (Nat × Nat)) {ks : List Nat} {B0 B0' B1 up : List (Nat × SB)} {d : Option Nat}
    (h : ∀ q, MDoes P f zs (gl q ks B0) r (gl q ks B1)) (hg : gd ops ⟨ts, σ⟩ o = some true) (ho : o.op = .call c) (ha : argsA ⟨ts, σ⟩ c = some (f, xs))
    (hz : optL (xs.map (rmA π σ (fun _ => 0))) = some zs') (hz' : zs'.map deN = zs) (hb : rmS π σ (fun _ => 0) π = some B0') (hb' : B0' = B0)
    (hu : ownR σ π π' ks B1 r = some (r', up)) (hk : okO σ π π' B0 = true) (hd : o.dst = d)
    (hr : RG P N ops rest ⟨putS N ts d r', ups σ up⟩ fun s' Es => K s' (⟨r', up, []⟩ :: Es)) : RG P N ops (o :: rest) ⟨ts, σ⟩ K := by
  unfold ownR at hu
  split at hu
  · rename_i up0 r1 e1 e2
    simp only [forceV_eq, forceUN_eq, Option.some.injEq, Prod.mk.injEq] at hu
    obtain ⟨rfl, rfl⟩ := hu
    exact RG.own h hg ho ha hz hz' hb hb' e1 e2 hk hd hr
  · cases hu
end Go.Proofs.Ytpaldbejnbcokaa.Sm
end
section
namespace Go.Proofs.Ytpaldbejnbcokaa.Sm
open Go.RowKit
set_option linter.unusedVariables false
set_option linter.unusedSimpArgs false

theorem Rel.toF {W : World} {F F' : Nat → Prop} {μ : Mu} {σ : Sto} (hF : ∀ b, F b → F' b) {x : AV} {v : Value} (h : Rel W F μ σ x v) : Rel W F' μ σ x v := by
  induction h with
  | pure h => exact .pure (h.to hF)
  | own id ep off v he h1 h => exact .own id ep off v he h1 h
  | el id ep k j v he h1 h => exact .el id ep k j v he h1 h
  | row id ep off n v he h1 h => exact .row id ep off n v he h1 h
  | agg cs vs hl h1 _ ih => exact .agg cs vs hl h1 ih
  | tup cs vs hl _ ih => exact .tup cs vs hl ih
  | fn f first caps fs cs hf hc _ _ ih ih' => exact .fn f first caps fs cs hf hc ih ih'
  | any v => exact .any v
/-- Told anew, or given up. -/
inductive RnF (l : List Nat) (σ σ' : Sto) : AV → AV → Prop where
  | rn {x x' : AV} (h : Rn σ σ' x x') : RnF l σ σ' x x'
  | fz {x y : AV} {l' : List Nat} (h : Fz σ x y l') (hl : ∀ i ∈ l', i ∈ l) : RnF l σ σ' x y
theorem RnF.is {l : List Nat} {σ σ' : Sto} {x y : AV} (e : x = y) (h : y.pu1 = true) : RnF l σ σ' x y := .rn (Rn.is e h)
theorem RnF.fzA {l : List Nat} {σ σ' : Sto} {x y y' : AV} {l' : List Nat} (h : fzA σ 6 x = some (y, l')) (hl : (l'.all fun i => l.any (Nat.beq i)) = true) (hy : y = y') : RnF l σ σ' x y' := by
  subst hy
  refine .fz (fzA_ok 6 h) fun i hi => ?_
  obtain ⟨j, hj, e⟩ := List.any_eq_true.1 (List.all_eq_true.1 hl i hi)
  rw [Nat.eq_of_beq_eq_true e]; exact hj
theorem RnF.rel {W : World} {F : Nat → Prop} {μ : Mu} {l : List Nat} {σ σ' : Sto} (hi : Inv W F μ σ) {x x' : AV} {v : Value} (h : RnF l σ σ' x x') (hx : Rel W F μ σ x v) : Rel W (fun b => F b ∨ Beh μ σ l b) μ σ' x' v := by
  cases h with
  | rn h => exact (h.rel hx).toF fun b hb => .inl hb
  | fz h hl => exact .pure ((h.rel hi hx).1.to fun b hb => hb.imp id fun ⟨id, g1, g2⟩ => ⟨id, hl id g1, g2⟩)
def WkTF (l : List Nat) (s : St) (σ' : Sto) : List (Nat × AV) → Prop
  | [] => True
  | p :: T => RnF l s.σ σ' (s.ts p.1) p.2 ∧ WkTF l s σ' T
inductive WkB1F (l : List Nat) (s : St) (σ' : Sto) (id : Nat) : SB → Prop where
  | old {sb : SB} (h : WkB1 s σ' id sb) : WkB1F l s σ' id sb
  | box {t : TypeId} {cs cs' : List AV} {ep ep' : Nat} (h : s.σ id = ⟨ep, some (.box t cs)⟩) (hl : cs'.length = cs.length) (h1 : cs'.all AV.one = true) (hc : ∀ (j : Nat) (x x' : AV), cs[j]? = some x → cs'[j]? = some x' → RnF l s.σ σ' x x') : WkB1F l s σ' id ⟨ep', some (.box t cs')⟩
def WkBF (l : List Nat) (s : St) (σ' : Sto) : List (Nat × SB) → Prop
  | [] => True
  | p :: b => WkB1F l s σ' p.1 p.2 ∧ WkBF l s σ' b
theorem wkTF_ok {l : List Nat} {s : St} {σ' : Sto} : ∀ {T : List (Nat × AV)}, WkTF l s σ' T → ∀ t, RnF l s.σ σ' (s.ts t) (lkT T t)
  | [], _, _ => .rn (.any _)
  | p :: T, h, t => by
    show RnF l s.σ σ' (s.ts t) (cond (Nat.beq t p.1) p.2 (lkT T t))
    cases hb : Nat.beq t p.1
    · exact wkTF_ok h.2 t
    · rw [Nat.eq_of_beq_eq_true hb]
      exact h.1
/-- How a block is told anew. -/
inductive RnBF (l : List Nat) (σ σ' : Sto) : Body → Body → Prop where
  | rn {b b' : Body} (h : RnB σ σ' b b') : RnBF l σ σ' b b'
  | box {t : TypeId} {cs cs' : List AV} (hl : cs'.length = cs.length) (h1 : ∀ (j : Nat) (x : AV), cs'[j]? = some x → x.one = true) (h : ∀ (j : Nat) (x x' : AV), cs[j]? = some x → cs'[j]? = some x' → RnF l σ σ' x x') : RnBF l σ σ' (.box t cs) (.box t cs')
theorem wkBF_ok {l : List Nat} {s : St} {σ' : Sto} : ∀ {b : List (Nat × SB)}, WkBF l s σ' b → ∀ id bd', (lkB b id).body = some bd' → ∃ bd, (s.σ id).body = some bd ∧ RnBF l s.σ σ' bd bd'
  | [], _, id, bd', h => by cases h
  | p :: b, h, id, bd', hb => by
    replace hb : (cond (Nat.beq id p.1) p.2 (lkB b id)).body = some bd' := hb
    cases hq : Nat.beq id p.1
    · rw [hq] at hb
      exact wkBF_ok h.2 id bd' hb
    · rw [hq] at hb
      replace hb : p.2.body = some bd' := hb
      rw [Nat.eq_of_beq_eq_true hq]
      have h1 := h.1
      obtain ⟨pid, psb⟩ := p
      cases h1 with
      | old h =>
        have : (lkB [(pid, psb)] pid).body = some bd' := by
          show (cond (Nat.beq pid pid) psb _).body = _
          rw [beq_t, cond_true]; exact hb
        obtain ⟨bd, e1, e2⟩ := wkB_ok (s := s) (σ' := σ') (l := [(pid, psb)]) ⟨h, trivial⟩ pid bd' this
        exact ⟨bd, e1, .rn e2⟩
      | box h hl h1 hc =>
        obtain rfl := Option.some.inj hb
        exact ⟨_, by rw [h], .box hl (fun j x hj => List.all_eq_true.1 h1 x (List.mem_of_getElem? hj)) hc⟩
/-- Blocks are given up: nobody writes them any more. -/
theorem AW.freeze {P : Program} {N : Nat} {Q : Exit → St → Prop} {s : St} {c : Code} (l : List Nat) (T : List (Nat × AV)) (b : List (Nat × SB)) (ht : WkTF l s (lkB b) T) (hB : WkBF l s (lkB b) b) (hd : (l.all fun i => (lkB b i).body.isNone) = true)
    (h : AW P N c Q (stL T b)) : AW P N c Q s := by
  intro W F μ a hr
  have hi := hr.inv
  have dead : ∀ i ∈ l, (lkB b i).body = none := fun i hi => by simpa using List.all_eq_true.1 hd i hi
  have own : ∀ x, Own μ (lkB b) x → Own μ s.σ x ∧ ¬ Beh μ s.σ l x := fun x ⟨id, ep, bd, c, h1, h2⟩ => by
    obtain ⟨bd0, h3, _⟩ := wkBF_ok hB id bd (by rw [h1])
    refine ⟨⟨id, (s.σ id).ep, bd0, c, by rw [← h3], h2⟩, fun ⟨id', g1, ep', bd', c', g2, g3⟩ => ?_⟩
    have := hi.inj id id' x c c' (by rw [h3]; rfl) (by rw [g2]; rfl) h2 g3
    subst this
    have := dead _ g1
    rw [h1] at this
    cases this
  have hs : Stq W F μ s.σ W (fun x => F x ∨ Beh μ s.σ l x) μ (lkB b) :=
    ⟨Kp.refl _ _, fun _ h => .inl h, fun x hx => hx.imp id fun ⟨id, _, ep, bd, c, h1, h2⟩ => .inl ⟨id, ep, bd, c, h1, h2⟩, fun x hx => .inl (own x hx).1⟩
  have hrs : RS N W (fun x => F x ∨ Beh μ s.σ l x) μ (stL T b) a := by
    refine ⟨fun t => (wkTF_ok ht t).rel hi (hr.ts t), hr.defers, hr.n, ⟨fun id ep bd hb => ?_, fun x hx => ⟨(hi.apart x (own x hx).1).1, fun hF => hF.elim (hi.apart x (own x hx).1).2 (own x hx).2⟩, fun id id' x c c' h1 h2 => ?_, fun x hx => hx.elim (hi.old x) fun ⟨id, _, ep, bd, c, h1, h2⟩ => (hi.apart x ⟨id, ep, bd, c, h1, h2⟩).1⟩⟩
    · obtain ⟨bd0, h3, hR⟩ := wkBF_ok hB id bd (by show (lkB b id).body = _; rw [show lkB b id = _ from hb])
      have hBd := hi.body id (s.σ id).ep bd0 (by rw [← h3])
      cases hR with
      | rn hR =>
        cases hR with
        | row t m els =>
          rcases hBd with h | ⟨bk, cap, cur, e1, e2, e3, e4, e5, e6, e7⟩
          · exact .inl h
          · refine .inr ⟨bk, cap, cur, e1, e2, e3, e4, e5, e6, fun k cs j x hk hj => ?_⟩
            obtain ⟨g1, v, g2, g3⟩ := e7 k cs j x hk hj
            exact ⟨g1, v, g2, g3.to fun b hb => .inl hb⟩
        | rowT t m n els =>
          rcases hBd.take (σ' := s.σ) n with h | ⟨bk, cap, cur, e1, e2, e3, e4, e5, e6, e7⟩
          · exact .inl h
          · refine .inr ⟨bk, cap, cur, e1, e2, e3, e4, e5, e6, fun k cs j x hk hj => ?_⟩
            obtain ⟨g1, v, g2, g3⟩ := e7 k cs j x hk hj
            exact ⟨g1, v, g2, g3.to fun b hb => .inl hb⟩
        | ghost h h' => exact ⟨hBd.1, by rw [show (stL T b).σ = lkB b from rfl, h']; exact Nat.le_refl _, fun bd _ => hBd.2.2 _ h⟩
        | @box t cs cs' hl h1 hrn =>
          obtain ⟨bk, c, vs, hm, hw, hlv, hv⟩ := hBd
          refine ⟨bk, c, vs, hm, hw, by rw [hlv, hl], fun j x' v hj hvj => ⟨h1 j x' hj, ?_⟩⟩
          obtain ⟨x, hxj⟩ : ∃ x, cs[j]? = some x := ⟨_, List.getElem?_eq_getElem (by rw [← hl]; exact (List.getElem?_eq_some_iff.1 hj).1)⟩
          exact ((hrn j x x' hxj hj).rel (hv j x v hxj hvj).2).toF fun b hb => .inl hb
      | @box t cs cs' hl h1 hrn =>
        obtain ⟨bk, c, vs, hm, hw, hlv, hv⟩ := hBd
        refine ⟨bk, c, vs, hm, hw, by rw [hlv, hl], fun j x' v hj hvj => ⟨h1 j x' hj, ?_⟩⟩
        obtain ⟨x, hxj⟩ : ∃ x, cs[j]? = some x := ⟨_, List.getElem?_eq_getElem (by rw [← hl]; exact (List.getElem?_eq_some_iff.1 hj).1)⟩
        exact (hrn j x x' hxj hj).rel hi (hv j x v hxj hvj).2
    · have g : ∀ id, (lkB b id).body.isSome = true → (s.σ id).body.isSome = true := fun id hb => by
        obtain ⟨bd', e⟩ := Option.isSome_iff_exists.1 hb
        obtain ⟨bd, e', _⟩ := wkBF_ok hB id bd' e
        rw [e']; rfl
      exact hi.inj id id' x c c' (g id h1) (g id' h2)
  refine Code.wp_mono ?_ (h W _ μ a hrs)
  rintro e a' W' ⟨F', μ', s'', hq, hr', hs'⟩
  exact ⟨F', μ', s'', hq, hr', hs.trans hs'⟩
/-! ### A slice of no elements: is it nil? -/
theorem MDoes.raw0 {P : Program} {f : FuncId} {r : AV} {b0 b1 : List (Nat × SB)} (h : ∀ A c, MDoes P f [.raw (.slice A 0 c)] b0 r b1) : MDoes P f [.sl []] b0 r b1 := by
  refine ⟨(h none 0).fn, fun W F μ vs hl hv hi => ?_⟩
  match vs, hl with
  | [v], _ =>
    cases (hv 0 _ _ rfl rfl).sl' with
    | sl _ A c =>
      exact (h A c).calls W F μ _ rfl (fun j x v hx hv => by
        match j, hx, hv with
        | 0, hx, hv =>
          obtain rfl := Option.some.inj hx
          obtain rfl := Option.some.inj hv
          exact .pure (.raw _)) hi
theorem op_append0 {P : Program} {N : Nat} {o : Oper} {s : St} {c : Call} {x y : Operand} {t e id cp : Nat} {A : Option Addr} {ti ei : TI} {els : List (List AV)} (ho : o.op = .call c) (hc : c.callee = .builtin .append) (ha : c.args = #[x, y]) (hat : c.argTypes = #[t, t]) (ht : TiOk P t ti) (hk : ti.k = .slice e) (he : TiOk P e ei) (h0 : (ei.n == 0) = false)
    (hx : (∃ ep, s.ev x = .row id ep 0 els.length ∧ s.σ id = ⟨ep, some (.row e ei.n els)⟩) ∨ (s.ev x = .raw (.slice none 0 0) ∧ els = []))
    (hy : s.ev y = .raw (.slice A 0 cp)) (hb : els.length * ei.sz ≤ 140737488355328) (h63 : els.length ≤ 9223372036854775807) :
    OpLoc P N o s ⟨.row id ((s.σ id).ep + 1) 0 els.length, [(id, ⟨(s.σ id).ep + 1, some (.row e ei.n els)⟩)], []⟩ :=
  op_appendX (els2 := []) ho hc ha hat ht hk he h0 [] hx (fun s' W F μ v _ hi hv => by
    rw [hy] at hv
    exact ⟨A, cp, [], hv.raw', RowC.nil _ _ _, .inr rfl⟩) hb h63 (List.append_nil _) rfl
/-! ### Results that lie in variables -/
theorem loadVar_rel {P : Program} {W : World} {F : Nat → Prop} {μ : Mu} {σ : Sto} (hi : Inv W F μ σ) {t : TypeId} {ti : TI} {x : AV} {v0 : Value} {cs : List AV} {l : List Nat} {r : AV} (ht : TiOk P t ti) (hx : Rel W F μ σ x v0) (hp : CA σ x cs l) (hr : ldA ti cs = some r) :
    ∃ A, v0 = .pointer (some A) ∧ ∃ v, (loadVar t A).run P W = .ok v W ∧ Rel W F μ σ r v := by
  obtain ⟨b, off, hv, hc⟩ := hp.cells hi hx
  refine ⟨_, hv, ?_⟩
  unfold ldA at hr
  cases hag : ti.k.ag with
  | true =>
    rw [hag, cond_true] at hr
    cases hle : Nat.ble ti.n cs.length with
    | false => rw [hle] at hr; cases hr
    | true =>
      have hn : ti.n ≤ cs.length := Nat.le_of_ble_eq_true hle
      rw [hle, cond_true] at hr
      obtain rfl := Option.some.inj hr
      let f : Nat → Value := fun j => (W.cell? ⟨b, off + j, none⟩).getD undef
      have get : ∀ (j : Nat) (y : AV), cs[j]? = some y → W.cell? ⟨b, off + j, none⟩ = some (f j) ∧ y.one = true ∧ Rel W F μ σ y (f j) := fun j y hj => by
        obtain ⟨g1, u, g2, g3⟩ := hc j y hj
        have : f j = u := by simp only [f, g2]; rfl
        exact ⟨by rw [this]; exact g2, g1, by rw [this]; exact g3⟩
      have hrun : (loadCells ⟨b, off, none⟩ ti.n).run P W = .ok ((List.range ti.n).map f).toArray W := run_loadCells W _ ti.n f fun j hj => by
        rw [ca_ptr (W := W)]
        exact (get j _ (List.getElem?_eq_getElem (by omega))).1
      refine ⟨.agg ((List.range ti.n).map f).toArray, ?_, .agg _ _ ?_ (fun j x hj => ?_) (fun j x v hj hv' => ?_)⟩
      · simp only [loadVar, Sem.run_bind, Sem.run_pure, Result.andThen_ok, ht.agg, hag, if_true, ht.size, hrun]
      · simp; omega
      · rw [List.getElem?_take] at hj
        split at hj
        · exact (get j x hj).2.1
        · cases hj
      · rw [List.getElem?_take] at hj
        split at hj
        · rename_i hlt
          have : f j = v := by simpa [hlt] using hv'
          rw [← this]
          exact (get j x hj).2.2
        · cases hj
  | false =>
    rw [hag, cond_false, List.head?_eq_getElem?] at hr
    obtain ⟨g1, u, g2, g3⟩ := hc 0 _ hr
    refine ⟨u, ?_, g3⟩
    have hrun : (load ⟨b, off, none⟩).run P W = .ok u W := by simp [load, Sem.run, show W.cell? ⟨b, off, none⟩ = some u from g2]
    simp only [loadVar, Sem.run_bind, Sem.run_pure, Result.andThen_ok, ht.agg, hag, Bool.false_eq_true, if_false, hrun]
theorem res_ct {P : Program} {fn : Func} {t u : Tmp} {ty : TypeId} {ti : TI} (h : fn.results = #[.cell t ty, .tmp u]) (ht : TiOk P ty ti) {s : St} {cs : List AV} {l : List Nat} {r : AV} (hc : caA s.σ (s.ts t) = some (cs, l)) (hr : ldA ti cs = some r) : ResOk P fn s (.tup [r, s.ts u]) := by
  intro W F μ a hrs
  obtain ⟨A, hA, v, hrun, hv⟩ := loadVar_rel hrs.inv ht (hrs.ts t) (caA_ok hc) hr
  refine ⟨.tuple #[v, a.tmps.getD u undef], ?_, .tup [r, s.ts u] [v, a.tmps.getD u undef] rfl (pw_cons hv (pw_cons (hrs.ts u) pw_nil))⟩
  rw [results_cell_tmp h]
  simp [hA, asAddr, hrun]
/-! ### A slice of no elements, made -/
theorem run_buildSlice0 {P : Program} (w : World) (t e : TypeId) (ie : TypeInfo) (hu : P.underlying t = some (.slice e)) (hie : P.info? e = some ie) :
    (Instr.buildSlice t 0 #[]).run P w = .ok (.slice (some ⟨w.heap.size, 0, none⟩) 0 0) (w.alloc (.cells #[] e)) := by
  have e0 : Array.map (fun _ => (default : Value)) (Array.range 0) = #[] := by
    apply Array.eq_empty_of_size_eq_zero
    simp
  simp [Instr.buildSlice, run_underlying hu, sizeOf, typeInfo, hie, newRow, Instr.fill, e0]
theorem op_build0 {P : Program} {N : Nat} {o : Oper} {s : St} {t e id : Nat} {ti ei : TI} (ho : o.op = .buildSlice t 0 #[]) (ht : TiOk P t ti) (hk : ti.k = .slice e) (he : TiOk P e ei) : OpLoc P N o s ⟨.row id ((s.σ id).ep + 1) 0 0, [(id, ⟨(s.σ id).ep + 1, some (.row e ei.n [])⟩)], []⟩ := by
  obtain ⟨inf, d, z, q1, _⟩ := he.h
  refine oploc_new [] fun s' W F μ a g1 g2 g3 hs => ?_
  refine ⟨.slice (some ⟨W.heap.size, 0, none⟩) 0 0, [], e, 0, ?_, fun μ' σ' hst hσ hμ => ⟨.inr ⟨W.heap.size, 0, #[], rfl, heap_alloc_new W _, Nat.le_refl _, by decide, by simp, fun k cs hk => by simp at hk, fun k cs j x hk => by simp at hk⟩, .row id _ 0 0 _ (by rw [hσ]; exact Nat.le_refl _) rfl fun t' m' els' hbd => ?_⟩⟩
  · have hrun := run_buildSlice0 (P := P) W t e inf (ht.slice hk) q1
    simp only [execOp, ho, List.map_toArray, List.map_nil, Sem.run_bind, hrun, Result.andThen_ok, Sem.run_pure]
  · rw [hσ] at hbd
    obtain ⟨_, _, rfl⟩ : e = t' ∧ ei.n = m' ∧ [] = els' := by simpa using hbd
    exact ⟨Nat.le_refl _, by rw [hμ]; simp⟩
/-! ### No slice, told as a row of no elements -/
inductive RnN (id ep : Nat) (σ σ' : Sto) : AV → AV → Prop where
  | rn {x x' : AV} (h : Rn σ σ' x x') : RnN id ep σ σ' x x'
  | nil (h : Nat.ble ep (σ' id).ep = true) : RnN id ep σ σ' (.raw (.slice none 0 0)) (.row id ep 0 0)
theorem RnN.is {id ep : Nat} {σ σ' : Sto} {x y : AV} (e : x = y) (h : y.pu1 = true) : RnN id ep σ σ' x y := .rn (Rn.is e h)
theorem RnN.rel {W : World} {F : Nat → Prop} {μ : Mu} {id ep : Nat} {σ σ' : Sto} (hμ : μ id = none) {x x' : AV} {v : Value} (h : RnN id ep σ σ' x x') (hx : Rel W F μ σ x v) : Rel W F μ σ' x' v := by
  cases h with
  | rn h => exact h.rel hx
  | nil h =>
    rw [hx.raw']
    exact .row _ _ _ _ _ (Nat.le_of_ble_eq_true h) rfl fun t m els _ => ⟨by omega, by rw [hμ]⟩
def WkTN (id ep : Nat) (s : St) (σ' : Sto) : List (Nat × AV) → Prop
  | [] => True
  | p :: T => RnN id ep s.σ σ' (s.ts p.1) p.2 ∧ WkTN id ep s σ' T
inductive WkB1N (i ep : Nat) (s : St) (σ' : Sto) (id : Nat) : SB → Prop where
  | old {sb : SB} (h : WkB1 s σ' id sb) : WkB1N i ep s σ' id sb
  | box {t : TypeId} {cs cs' : List AV} {e e' : Nat} (h : s.σ id = ⟨e, some (.box t cs)⟩) (hl : cs'.length = cs.length) (h1 : cs'.all AV.one = true) (hc : ∀ (j : Nat) (x x' : AV), cs[j]? = some x → cs'[j]? = some x' → RnN i ep s.σ σ' x x') : WkB1N i ep s σ' id ⟨e', some (.box t cs')⟩
def WkBN (i ep : Nat) (s : St) (σ' : Sto) : List (Nat × SB) → Prop
  | [] => True
  | p :: b => WkB1N i ep s σ' p.1 p.2 ∧ WkBN i ep s σ' b
theorem wkTN_ok {i ep : Nat} {s : St} {σ' : Sto} : ∀ {T : List (Nat × AV)}, WkTN i ep s σ' T → ∀ t, RnN i ep s.σ σ' (s.ts t) (lkT T t)
  | [], _, _ => .rn (.any _)
  | p :: T, h, t => by
    show RnN i ep s.σ σ' (s.ts t) (cond (Nat.beq t p.1) p.2 (lkT T t))
    cases hb : Nat.beq t p.1
    · exact wkTN_ok h.2 t
    · rw [Nat.eq_of_beq_eq_true hb]
      exact h.1
inductive RnBN (i ep : Nat) (σ σ' : Sto) : Body → Body → Prop where
  | rn {b b' : Body} (h : RnB σ σ' b b') : RnBN i ep σ σ' b b'
  | box {t : TypeId} {cs cs' : List AV} (hl : cs'.length = cs.length) (h1 : ∀ (j : Nat) (x : AV), cs'[j]? = some x → x.one = true) (h : ∀ (j : Nat) (x x' : AV), cs[j]? = some x → cs'[j]? = some x' → RnN i ep σ σ' x x') : RnBN i ep σ σ' (.box t cs) (.box t cs')
theorem wkBN_ok {i ep : Nat} {s : St} {σ' : Sto} : ∀ {b : List (Nat × SB)}, WkBN i ep s σ' b → ∀ id bd', (lkB b id).body = some bd' → ∃ bd, (s.σ id).body = some bd ∧ RnBN i ep s.σ σ' bd bd'
  | [], _, id, bd', h => by cases h
  | p :: b, h, id, bd', hb => by
    replace hb : (cond (Nat.beq id p.1) p.2 (lkB b id)).body = some bd' := hb
    cases hq : Nat.beq id p.1
    · rw [hq] at hb
      exact wkBN_ok h.2 id bd' hb
    · rw [hq] at hb
      replace hb : p.2.body = some bd' := hb
      rw [Nat.eq_of_beq_eq_true hq]
      have h1 := h.1
      obtain ⟨pid, psb⟩ := p
      cases h1 with
      | old h =>
        have : (lkB [(pid, psb)] pid).body = some bd' := by
          show (cond (Nat.beq pid pid) psb _).body = _
          rw [beq_t, cond_true]; exact hb
        obtain ⟨bd, e1, e2⟩ := wkB_ok (s := s) (σ' := σ') (l := [(pid, psb)]) ⟨h, trivial⟩ pid bd' this
        exact ⟨bd, e1, .rn e2⟩
      | box h hl h1 hc =>
        obtain rfl := Option.some.inj hb
        exact ⟨_, by rw [h], .box hl (fun j x hj => List.all_eq_true.1 h1 x (List.mem_of_getElem? hj)) hc⟩
/-- A number of the store is given to a row of no elements; slices that are nil may be told as that row. -/
theorem AW.nilRow {P : Program} {N : Nat} {Q : Exit → St → Prop} {s : St} {c : Code} (i ep t m : Nat) (T : List (Nat × AV)) (b : List (Nat × SB)) (ht : WkTN i ep ⟨s.ts, up1 s.σ i ⟨(s.σ i).ep + 1, some (.row t m [])⟩⟩ (lkB b) T) (hB : WkBN i ep ⟨s.ts, up1 s.σ i ⟨(s.σ i).ep + 1, some (.row t m [])⟩⟩ (lkB b) b)
    (h : AW P N c Q (stL T b)) : AW P N c Q s := by
  intro W F μ a hr
  obtain ⟨hs, hi⟩ := inv_turn hr.inv i none ((s.σ i).ep + 1) (.row t m []) (Kp.refl _ W) (fun b c e => by cases e) (.inl (Nat.lt_succ_self _)) (fun _ => .inl ⟨rfl, rfl⟩)
  have hr1 : RS N W F (upm μ i none) ⟨s.ts, up1 s.σ i ⟨(s.σ i).ep + 1, some (.row t m [])⟩⟩ a := ⟨fun t => (hr.ts t).stp hr.inv hs, hr.defers, hr.n, hi⟩
  have hμ : upm μ i none i = none := if_pos rfl
  generalize upm μ i none = μ2 at hs hi hr1 hμ
  have hs := hs.q
  generalize hs2 : (⟨s.ts, up1 s.σ i ⟨(s.σ i).ep + 1, some (.row t m [])⟩⟩ : St) = s2 at ht hB hr1
  have hσ2 : up1 s.σ i ⟨(s.σ i).ep + 1, some (.row t m [])⟩ = s2.σ := by rw [← hs2]
  rw [hσ2] at hs hi
  have own : ∀ x, Own μ2 (lkB b) x → Own μ2 s2.σ x := fun x ⟨id, e, bd, c, h1, h2⟩ => by
    obtain ⟨bd0, h3, _⟩ := wkBN_ok hB id bd (by rw [h1])
    exact ⟨id, (s2.σ id).ep, bd0, c, by rw [← h3], h2⟩
  have hs' : Stq W F μ2 s2.σ W F μ2 (lkB b) := ⟨Kp.refl _ _, fun _ h => h, fun x hx => .inl hx, fun x hx => .inl (own x hx)⟩
  have hrs : RS N W F μ2 (stL T b) a := by
    refine ⟨fun t => (wkTN_ok ht t).rel hμ (hr1.ts t), hr1.defers, hr1.n, ⟨fun id e bd hb => ?_, fun x hx => hi.apart x (own x hx), fun id id' x c c' h1 h2 => ?_, hi.old⟩⟩
    · obtain ⟨bd0, h3, hR⟩ := wkBN_ok hB id bd (by show (lkB b id).body = _; rw [show lkB b id = _ from hb])
      have hBd := hi.body id (s2.σ id).ep bd0 (by rw [← h3])
      cases hR with
      | rn hR =>
        cases hR with
        | row t m els => exact hBd
        | rowT t m n els => exact hBd.take n
        | ghost h h' => exact ⟨hBd.1, by rw [show (stL T b).σ = lkB b from rfl, h']; exact Nat.le_refl _, fun bd _ => hBd.2.2 _ h⟩
        | @box t cs cs' hl h1 hrn =>
          obtain ⟨bk, c, vs, hm, hw, hlv, hv⟩ := hBd
          refine ⟨bk, c, vs, hm, hw, by rw [hlv, hl], fun j x' v hj hvj => ⟨h1 j x' hj, ?_⟩⟩
          obtain ⟨x, hxj⟩ : ∃ x, cs[j]? = some x := ⟨_, List.getElem?_eq_getElem (by rw [← hl]; exact (List.getElem?_eq_some_iff.1 hj).1)⟩
          exact (hrn j x x' hxj hj).rel (hv j x v hxj hvj).2
      | @box t cs cs' hl h1 hrn =>
        obtain ⟨bk, c, vs, hm, hw, hlv, hv⟩ := hBd
        refine ⟨bk, c, vs, hm, hw, by rw [hlv, hl], fun j x' v hj hvj => ⟨h1 j x' hj, ?_⟩⟩
        obtain ⟨x, hxj⟩ : ∃ x, cs[j]? = some x := ⟨_, List.getElem?_eq_getElem (by rw [← hl]; exact (List.getElem?_eq_some_iff.1 hj).1)⟩
        exact (hrn j x x' hxj hj).rel hμ (hv j x v hxj hvj).2
    · have g : ∀ id, (lkB b id).body.isSome = true → (s2.σ id).body.isSome = true := fun id hb => by
        obtain ⟨bd', e⟩ := Option.isSome_iff_exists.1 hb
        obtain ⟨bd, e', _⟩ := wkBN_ok hB id bd' e
        rw [e']; rfl
      exact hi.inj id id' x c c' (g id h1) (g id' h2)
  refine Code.wp_mono ?_ (h W _ μ2 a hrs)
  rintro e a' W' ⟨F', μ', s'', hq, hr', hs''⟩
  exact ⟨F', μ', s'', hq, hr', (hs.trans hs').trans hs''⟩
/-! ### Told anew, lists of cells; the ends of functions with blocks -/
def RnL (σ σ' : Sto) : List AV → List AV → Prop
  | [], [] => True
  | x :: xs, y :: ys => Rn σ σ' x y ∧ RnL σ σ' xs ys
  | _, _ => False
theorem rnL_ok {σ σ' : Sto} : ∀ {xs ys : List AV}, RnL σ σ' xs ys → ys.length = xs.length ∧ ∀ (j : Nat) (x y : AV), xs[j]? = some x → ys[j]? = some y → Rn σ σ' x y
  | [], [], _ => ⟨rfl, fun j x y h => by simp at h⟩
  | x :: xs, y :: ys, h => by
    obtain ⟨h1, h2⟩ := rnL_ok h.2
    refine ⟨by simp [h1], fun j a b ha hb => ?_⟩
    cases j with
    | zero =>
      obtain rfl : x = a := by simpa using ha
      obtain rfl : y = b := by simpa using hb
      exact h.1
    | succ j => exact h2 j a b (by simpa using ha) (by simpa using hb)
  | [], _ :: _, h => h.elim
  | _ :: _, [], h => h.elim
theorem WkB1.boxL {s : St} {σ' : Sto} {id : Nat} {t : TypeId} {cs cs' : List AV} {ep ep' : Nat} (h : s.σ id = ⟨ep, some (.box t cs)⟩) (hc : RnL s.σ σ' cs cs') (h1 : cs'.all AV.one = true) : WkB1 s σ' id ⟨ep', some (.box t cs')⟩ :=
  .box h (rnL_ok hc).1 h1 (rnL_ok hc).2
def RnFL (l : List Nat) (σ σ' : Sto) : List AV → List AV → Prop
  | [], [] => True
  | x :: xs, y :: ys => RnF l σ σ' x y ∧ RnFL l σ σ' xs ys
  | _, _ => False
theorem rnFL_ok {l : List Nat} {σ σ' : Sto} : ∀ {xs ys : List AV}, RnFL l σ σ' xs ys → ys.length = xs.length ∧ ∀ (j : Nat) (x y : AV), xs[j]? = some x → ys[j]? = some y → RnF l σ σ' x y
  | [], [], _ => ⟨rfl, fun j x y h => by simp at h⟩
  | x :: xs, y :: ys, h => by
    obtain ⟨h1, h2⟩ := rnFL_ok h.2
    refine ⟨by simp [h1], fun j a b ha hb => ?_⟩
    cases j with
    | zero =>
      obtain rfl : x = a := by simpa using ha
      obtain rfl : y = b := by simpa using hb
      exact h.1
    | succ j => exact h2 j a b (by simpa using ha) (by simpa using hb)
  | [], _ :: _, h => h.elim
  | _ :: _, [], h => h.elim
theorem WkB1F.boxL {l : List Nat} {s : St} {σ' : Sto} {id : Nat} {t : TypeId} {cs cs' : List AV} {ep ep' : Nat} (h : s.σ id = ⟨ep, some (.box t cs)⟩) (hc : RnFL l s.σ σ' cs cs') (h1 : cs'.all AV.one = true) : WkB1F l s σ' id ⟨ep', some (.box t cs')⟩ :=
  .box h (rnFL_ok hc).1 h1 (rnFL_ok hc).2
def RnNL (i ep : Nat) (σ σ' : Sto) : List AV → List AV → Prop
  | [], [] => True
  | x :: xs, y :: ys => RnN i ep σ σ' x y ∧ RnNL i ep σ σ' xs ys
  | _, _ => False
theorem rnNL_ok {i ep : Nat} {σ σ' : Sto} : ∀ {xs ys : List AV}, RnNL i ep σ σ' xs ys → ys.length = xs.length ∧ ∀ (j : Nat) (x y : AV), xs[j]? = some x → ys[j]? = some y → RnN i ep σ σ' x y
  | [], [], _ => ⟨rfl, fun j x y h => by simp at h⟩
  | x :: xs, y :: ys, h => by
    obtain ⟨h1, h2⟩ := rnNL_ok h.2
    refine ⟨by simp [h1], fun j a b ha hb => ?_⟩
    cases j with
    | zero =>
      obtain rfl : x = a := by simpa using ha
      obtain rfl : y = b := by simpa using hb
      exact h.1
    | succ j => exact h2 j a b (by simpa using ha) (by simpa using hb)
  | [], _ :: _, h => h.elim
  | _ :: _, [], h => h.elim
theorem WkB1N.boxL {i e0 : Nat} {s : St} {σ' : Sto} {id : Nat} {t : TypeId} {cs cs' : List AV} {ep ep' : Nat} (h : s.σ id = ⟨ep, some (.box t cs)⟩) (hc : RnNL i e0 s.σ σ' cs cs') (h1 : cs'.all AV.one = true) : WkB1N i e0 s σ' id ⟨ep', some (.box t cs')⟩ :=
  .box h (rnNL_ok hc).1 h1 (rnNL_ok hc).2
theorem Rm.ownIs {π : List (Nat × Nat)} {σ σ' : Sto} {x : AV} {id id' ep ep' off : Nat} {bd bd' : Body} (e : x = .own id ep off) (hm : lkP π id = some id') (h : σ id = ⟨ep, some bd⟩) (h' : σ' id' = ⟨ep', some bd'⟩) : Rm π σ σ' x (.own id' ep' off) := e ▸ .own (lkP_ok hm) h h'
theorem Rm.rowIs {π : List (Nat × Nat)} {σ σ' : Sto} {x : AV} {id id' ep ep' off n t m : Nat} {els : List (List AV)} (e : x = .row id ep off n) (hm : lkP π id = some id') (h : σ id = ⟨ep, some (.row t m els)⟩) (h' : σ' id' = ⟨ep', some (.row t m els)⟩) : Rm π σ σ' x (.row id' ep' off n) := e ▸ .row (lkP_ok hm) h h'
theorem retM0 {P : Program} {fn : Func} {s : St} {b1 : List (Nat × SB)} {e : Exit} (hr : fn.results = #[]) (he : e = .normal ∨ e = .ret) (hB : WkB s (lkB b1) b1) : retM P fn (.tup []) b1 e s :=
  ⟨he, _, res_none hr s, .tup rfl (fun j x x' h => by simp at h), hB⟩
theorem retM1 {P : Program} {fn : Func} {t : Tmp} {s : St} {b1 : List (Nat × SB)} {r : AV} (hr : fn.results = #[.tmp t]) (hx : Rm (b1.map fun p => (p.1, p.1)) s.σ (lkB b1) (s.ts t) r) (hB : WkB s (lkB b1) b1) : retM P fn r b1 .ret s :=
  ⟨.inr rfl, _, res_tmp hr s, hx, hB⟩
theorem retM2 {P : Program} {fn : Func} {t u : Tmp} {s : St} {b1 : List (Nat × SB)} {r q : AV} (hr : fn.results = #[.tmp t, .tmp u]) (hx : Rm (b1.map fun p => (p.1, p.1)) s.σ (lkB b1) (s.ts t) r) (hy : Rm (b1.map fun p => (p.1, p.1)) s.σ (lkB b1) (s.ts u) q) (hB : WkB s (lkB b1) b1) : retM P fn (.tup [r, q]) b1 .ret s :=
  ⟨.inr rfl, _, res_tmp2 hr s, .tup rfl (pw_cons hx (pw_cons hy pw_nil)), hB⟩
theorem retQct {P : Program} {fn : Func} {t u : Tmp} {ty : TypeId} {ti : TI} {s : St} {cs : List AV} {l l' : List Nat} {x x' y r : AV} (h : fn.results = #[.cell t ty, .tmp u]) (ht : TiOk P ty ti) (hc : caA s.σ (s.ts t) = some (cs, l)) (hr : ldA ti cs = some x) (hs : s.ts u = x') (hz : fzA s.σ 6 (.tup [x, x']) = some (y, l')) (hy : y = r) : retQ P fn r .ret s :=
  ⟨.inr rfl, _, l', res_ct h ht hc hr, by rw [hs, ← hy]; exact fzA_ok 6 hz⟩
/-- A cut behind a piece of code: what follows needs only what is told of the state there. -/
theorem AW.cutT {P : Program} {N : Nat} {Q : Exit → St → Prop} {s : St} {x y : Code} {ι : Type} (T : ι → List (Nat × AV)) (B : ι → List (Nat × SB)) (J : ι → Prop) (h1 : AW P N x (thenA (fun s' => ∃ i, J i ∧ WkT s' (lkB (B i)) (T i) ∧ WkB s' (lkB (B i)) (B i)) Q) s)
    (h2 : ∀ i, J i → AW P N y Q (stL (T i) (B i))) : AW P N x (thenA (AW P N y Q) Q) s :=
  h1.mono fun e s' hq => by
    cases e with
    | normal =>
      obtain ⟨i, hJ, ht, hB⟩ := hq
      exact AW.only _ _ ht hB (h2 i hJ)
    | _ => exact hq
/-- No list is longer than the machine counts: a list in a variable of the store. -/
theorem AW.lensB {P : Program} {N : Nat} {Q : Exit → St → Prop} {s : St} {c : Code} (id : Nat) {ep t : Nat} {cs : List AV} (hid : s.σ id = ⟨ep, some (.box t cs)⟩) (j : Nat) {els : List (List AV)} (hj : cs[j]? = some (.sl els)) (h : els.length ≤ 9223372036854775807 → AW P N c Q s) : AW P N c Q s := by
  intro W F μ a hr
  obtain ⟨b, c', vs, h1, h2, h3, h4⟩ := hr.inv.body id ep _ hid
  obtain ⟨v, hv⟩ : ∃ v, vs[j]? = some v := ⟨_, List.getElem?_eq_getElem (by rw [h3]; exact (List.getElem?_eq_some_iff.1 hj).1)⟩
  cases (h4 j _ v hj hv).2.sl' with
  | sl _ A c m b off cell hc hm =>
    have : maxLen = 9223372036854775807 := by decide
    exact h (by omega) W F μ a hr
theorem retQ0 {P : Program} {fn : Func} {s : St} {e : Exit} (hr : fn.results = #[]) (he : e = .normal ∨ e = .ret) : retQ P fn (.tup []) e s :=
  ⟨he, _, [], res_none hr s, fzA_ok 6 rfl⟩
end Go.Proofs.Ytpaldbejnbcokaa.Sm
end
