/- What law21's text says of configs that fit, and of the others. -/
import Derived.Test.YtpaldbejnbcokaaTx
namespace Go.Proofs.Ytpaldbejnbcokaa.Sm
open Go.RowKit
set_option linter.unusedVariables false
theorem gfold_fit {α : Type} (g : List UInt8 × Bool → α → List UInt8 × Bool) (ok : α → Bool) (f : α → List UInt64) (hs : ∀ p x, p.2 = false → g p x = p) (hy : ∀ p x, p.2 = true → ok x = true → g p x = (p.1 ++ enc8 (f x), true)) (hn : ∀ p x, p.2 = true → ok x = false → (g p x).2 = false) :
    ∀ (t : List α) (p : List UInt8 × Bool), p.2 = true → (t.all ok = true → t.foldl g p = (p.1 ++ enc8 (t.flatMap f), true)) ∧ (t.all ok = false → (t.foldl g p).2 = false)
  | [], p, h => by
    obtain ⟨a, b⟩ := p
    subst h
    simp [enc8_nil]
  | x :: t, p, h => by
    rw [List.all_cons, List.foldl_cons]
    cases hx : ok x
    · refine ⟨fun h1 => by simp at h1, fun _ => ?_⟩
      have h2 := hn p x h hx
      rw [gfold_stuck g hs _ _ h2, h2]
    · have e := hy p x h hx
      have ih := gfold_fit g ok f hs hy hn t (g p x) (by rw [e])
      refine ⟨fun h1 => ?_, fun h1 => ih.2 (by simpa using h1)⟩
      rw [ih.1 (by simpa using h1), e, List.flatMap_cons, enc8_append, List.append_assoc]
theorem pt_flat (r : List Pt) : r.flatMap ptB = enc8 (r.flatMap Pt.words) := by
  induction r with
  | nil => rfl
  | cons x r ih =>
    rw [List.flatMap_cons, List.flatMap_cons, enc8_append, ih]
    congr 1
    simp only [ptB, numsI, List.map_cons, List.map_nil, ofI64_of, Pt.words]
theorem pr_words (x : Pr) : prB x = enc8 x.words := by simp only [prB, numsI, List.map_cons, List.map_nil, ofI64_of, Pr.words]
theorem wy_words (x : Wy) : wyB x = enc8 x.words := by simp only [wyB, numsI, List.map_cons, List.map_nil, ofI64_of, Wy.words]
theorem fitL_split {α : Type} {ok : α → Bool} {l : List α} : fitL ok l = (decide (l.length ≤ 200) && l.all ok) := rfl
theorem f1 (c : Cfg) (h : ok0 c = true) : (c.ports.all portsFit = true → tx1 c = (enc8 (itemsW portsW c.ports), true)) ∧ (c.ports.all portsFit = false → (tx1 c).2 = false) := by
  have := gfold_fit ptF portsFit portsW ptF_stuck (fun p x hp hx => by
      have h2 : x.length ≤ 200 := by simp [portsFit, fitL] at hx; exact hx.1
      unfold ptF
      rw [if_pos hp, if_pos h2, numsI_count _ h2, pt_flat, decide_eq_true h2]
      simp only [portsW, itemsW, enc8_cons, List.append_assoc]) (fun p x hp hx => by
      have h2 : ¬ x.length ≤ 200 := fun h => by simp [portsFit, fitL, h, yes] at hx
      unfold ptF
      rw [if_pos hp]
      exact decide_eq_false h2) c.ports (numsI [(c.ports.length : Int)], ok0 c) h
  refine ⟨fun h1 => ?_, this.2⟩
  have h2 := this.1 h1
  unfold tx1
  rw [h2, numsI_count _ (ok0_len h).1]
  simp only [itemsW, enc8_cons]
theorem f2 {c : Cfg} {L : List UInt8} (h0 : ok0 c = true) (h : tx1 c = (L, true)) : tx2 c = (L ++ enc8 (c.tenants :: itemsW Pr.words c.peers), true) := by
  have := (gfold_fit prF (fun _ => true) Pr.words prF_stuck (fun p x hp _ => by unfold prF; rw [if_pos hp, pr_words, hp]) (fun p x _ hx => by cases hx) c.peers (L ++ numsI [i64of c.tenants, (c.peers.length : Int)], true) rfl).1 (by simp)
  have e : numsI [i64of c.tenants, (c.peers.length : Int)] = enc8 [c.tenants] ++ numsI [(c.peers.length : Int)] := by simp only [numsI, List.map_cons, List.map_nil, ofI64_of, enc8_cons, enc8_nil, List.append_assoc, List.nil_append]
  unfold tx2
  rw [h, this, e, numsI_count _ (ok0_len h0).2.1]
  simp only [itemsW, enc8_cons, enc8_nil, List.append_assoc, List.nil_append]
theorem f3 {c : Cfg} {L : List UInt8} (h0 : ok0 c = true) (h : tx2 c = (L, true)) : tx3 c = (L ++ enc8 (itemsW Wy.words c.ways), true) := by
  have := (gfold_fit wyF (fun _ => true) Wy.words wyF_stuck (fun p x hp _ => by unfold wyF; rw [if_pos hp, wy_words, hp]) (fun p x _ hx => by cases hx) c.ways (L ++ numsI [(c.ways.length : Int)], true) rfl).1 (by simp)
  unfold tx3
  rw [h, this, numsI_count _ (ok0_len h0).2.2.1]
  simp only [itemsW, enc8_cons, List.append_assoc]
theorem f4 {c : Cfg} {L : List UInt8} (h0 : ok0 c = true) (h : tx3 c = (L, true)) : (c.tables.all tablesFit = true → txR c = (L ++ enc8 (itemsW tablesW c.tables), true)) ∧ (c.tables.all tablesFit = false → (txR c).2 = false) := by
  have := gfold_fit tbF tablesFit tablesW tbF_stuck (fun p x hp hx => by unfold tbF; rw [if_pos hp, tabR_eq hx, tabR_fit, hx]) (fun p x hp hx => by unfold tbF; rw [if_pos hp]; exact (tabR_fit x).trans hx) c.tables (L ++ numsI [(c.tables.length : Int)], true) rfl
  unfold txR
  rw [h]
  refine ⟨fun h1 => ?_, this.2⟩
  rw [this.1 h1, numsI_count _ (ok0_len h0).2.2.2]
  simp only [itemsW, enc8_cons, List.append_assoc]
theorem yes_all {α : Type} (l : List α) : l.all yes = true := by simp [yes]
theorem fit_iff (c : Cfg) : c.fit = (ok0 c && (c.ports.all portsFit && c.tables.all tablesFit)) := by
  unfold Cfg.fit ok0 fitL
  rw [yes_all, yes_all]
  cases decide (c.ports.length ≤ 200) <;> cases decide (c.peers.length ≤ 200) <;> cases decide (c.ways.length ≤ 200) <;> cases decide (c.tables.length ≤ 200) <;> cases c.ports.all portsFit <;> cases c.tables.all tablesFit <;> rfl
theorem txR_fit {c : Cfg} (h : c.fit = true) : txR c = (enc8 c.words, true) := by
  rw [fit_iff] at h
  simp only [Bool.and_eq_true] at h
  obtain ⟨h0, h1, h2⟩ := h
  rw [(f4 h0 (f3 h0 (f2 h0 ((f1 c h0).1 h1)))).1 h2]
  simp only [Cfg.words, enc8_append, enc8_cons, List.append_assoc]
theorem txR_not {c : Cfg} (h : c.fit = false) : (txR c).2 = false := by
  rw [fit_iff] at h
  cases hq : (txR c).2
  · rfl
  · have q3 : (tx3 c).2 = true := gfold_ok tbF tbF_stuck (p := ((tx3 c).1 ++ numsI [(c.tables.length : Int)], (tx3 c).2)) hq
    have q2 : (tx2 c).2 = true := gfold_ok wyF wyF_stuck (p := ((tx2 c).1 ++ numsI [(c.ways.length : Int)], (tx2 c).2)) q3
    have q1 : (tx1 c).2 = true := gfold_ok prF prF_stuck (p := ((tx1 c).1 ++ numsI [i64of c.tenants, (c.peers.length : Int)], (tx1 c).2)) q2
    have h0 := tx1_ok q1
    have h1 : c.ports.all portsFit = true := by
      cases hp : c.ports.all portsFit
      · rw [(f1 c h0).2 hp] at q1; cases q1
      · rfl
    have h2 : c.tables.all tablesFit = true := by
      cases hp : c.tables.all tablesFit
      · rw [(f4 h0 (f3 h0 (f2 h0 ((f1 c h0).1 h1)))).2 hp] at hq; cases hq
      · rfl
    rw [h0, h1, h2] at h
    cases h
theorem d_txt_yes {c : Cfg} (h : c.fit = true) : PDoes Try.prog 13 [.agg (cfgC c)] (.tup [.s (txR c).1, .b true]) := by
  have := text_d c
  rwa [show (txR c).2 = true by rw [txR_fit h]] at this
theorem d_txt_no {c : Cfg} (h : c.fit = false) : PDoes Try.prog 13 [.agg (cfgC c)] (.tup [.s (txR c).1, .b false]) := by
  have := text_d c
  rwa [txR_not h] at this
theorem d_text_yes (c : Cfg) (h : c.fit = true) : PDoes Try.prog 13 [.agg (cfgC c)] (.tup [.s (enc8 c.words), .b true]) := by
  have := d_txt_yes h
  rwa [txR_fit h] at this
theorem d_text_no (c : Cfg) (h : c.fit = false) : PDoes Try.prog 13 [.agg (cfgC c)] (.tup [.s (txR c).1, .b false]) := d_txt_no h
end Go.Proofs.Ytpaldbejnbcokaa.Sm
