/- law21's text as data: what it says of any config. -/
import Derived.Test.YtpaldbejnbcokaaTb
namespace Go.Proofs.Ytpaldbejnbcokaa.Sm
open Go.RowKit
set_option linter.unusedVariables false
set_option maxRecDepth 100000
set_option maxHeartbeats 4000000
/-! ### Folds that stop -/
section
variable {α : Type} (g : List UInt8 × Bool → α → List UInt8 × Bool) (hg : ∀ p x, p.2 = false → g p x = p)
def gK (p : List UInt8 × Bool) (t : List α) (k : Nat) : List UInt8 × Bool := (t.take k).foldl g p
include hg in
theorem gfold_stuck : ∀ (t : List α) (p : List UInt8 × Bool), p.2 = false → t.foldl g p = p
  | [], p, _ => rfl
  | r :: t, p, h => by rw [List.foldl_cons, hg p r h, gfold_stuck t p h]
include hg in
theorem gK_ok {p : List UInt8 × Bool} {t : List α} {k : Nat} (h : (gK g p t k).2 = true) : p.2 = true := by
  cases hp : p.2
  · unfold gK at h
    rw [gfold_stuck g hg _ _ hp, hp] at h
    cases h
  · rfl
theorem gK_next {p : List UInt8 × Bool} {t : List α} {k : Nat} {r : α} (h : t[k]? = some r) : gK g p t (k + 1) = g (gK g p t k) r := by
  unfold gK
  rw [List.take_add_one, h]
  simp
include hg in
theorem gK_all {p : List UInt8 × Bool} {t : List α} {k : Nat} (hk : k ≤ t.length) (h : k = t.length ∨ (gK g p t k).2 = false) : gK g p t k = t.foldl g p := by
  rcases h with rfl | h
  · unfold gK; rw [List.take_length]
  · have e : t.foldl g p = (t.drop k).foldl g (gK g p t k) := by unfold gK; rw [← List.foldl_append, List.take_append_drop]
    rw [e, gfold_stuck g hg _ _ h]
theorem gfold_len {B : Nat} (hb : ∀ p x, (g p x).1.length ≤ p.1.length + B) : ∀ (t : List α) (p : List UInt8 × Bool), (t.foldl g p).1.length ≤ p.1.length + t.length * B
  | [], p => by simp
  | r :: t, p => by
    have h1 := gfold_len hb t (g p r)
    have h2 := hb p r
    rw [List.foldl_cons, List.length_cons, Nat.add_mul]
    omega
end
def ptB (x : Pt) : List UInt8 := numsI [i64of x.kind, i64of x.tenant, i64of x.peer, i64of x.at_, i64of x.cost]
def prB (x : Pr) : List UInt8 := numsI [i64of x.a, i64of x.b]
def wyB (x : Wy) : List UInt8 := numsI [i64of x.fro, i64of x.to, i64of x.via]
def ptF (p : List UInt8 × Bool) (r : List Pt) : List UInt8 × Bool := if p.2 = true then (p.1 ++ numsI [(r.length : Int)] ++ (if r.length ≤ 200 then r.flatMap ptB else []), decide (r.length ≤ 200)) else p
def prF (p : List UInt8 × Bool) (r : Pr) : List UInt8 × Bool := if p.2 = true then (p.1 ++ prB r, p.2) else p
def wyF (p : List UInt8 × Bool) (r : Wy) : List UInt8 × Bool := if p.2 = true then (p.1 ++ wyB r, p.2) else p
def tbF (p : List UInt8 × Bool) (t : List (List Rl)) : List UInt8 × Bool := if p.2 = true then (p.1 ++ (tabR t).1, (tabR t).2) else p
theorem ptF_stuck (p : List UInt8 × Bool) (x : List Pt) (h : p.2 = false) : ptF p x = p := by unfold ptF; rw [h]; simp
theorem prF_stuck (p : List UInt8 × Bool) (x : Pr) (h : p.2 = false) : prF p x = p := by unfold prF; rw [h]; simp
theorem wyF_stuck (p : List UInt8 × Bool) (x : Wy) (h : p.2 = false) : wyF p x = p := by unfold wyF; rw [h]; simp
theorem tbF_stuck (p : List UInt8 × Bool) (x : List (List Rl)) (h : p.2 = false) : tbF p x = p := by unfold tbF; rw [h]; simp
theorem pts_len : ∀ l : List Pt, (l.flatMap ptB).length = 40 * l.length
  | [] => rfl
  | x :: l => by rw [List.flatMap_cons, List.length_append, pts_len l, ptB, numsI_len]; simp; omega
theorem ptF_len (p : List UInt8 × Bool) (r : List Pt) : (ptF p r).1.length ≤ p.1.length + 8008 := by
  unfold ptF
  split
  · simp only [List.length_append, numsI_len, List.length_cons, List.length_nil]
    split
    · rw [pts_len]; omega
    · simp
  · omega
theorem prF_len (p : List UInt8 × Bool) (r : Pr) : (prF p r).1.length ≤ p.1.length + 16 := by
  unfold prF
  split
  · simp [prB, numsI_len]
  · omega
theorem wyF_len (p : List UInt8 × Bool) (r : Wy) : (wyF p r).1.length ≤ p.1.length + 24 := by
  unfold wyF
  split
  · simp [wyB, numsI_len]
  · omega
theorem tbF_len (p : List UInt8 × Bool) (r : List (List Rl)) : (tbF p r).1.length ≤ p.1.length + 4000000 := by
  have := tabR_len r
  unfold tbF
  split
  · simp only [List.length_append]; omega
  · omega
def ok0 (c : Cfg) : Bool := decide (c.ports.length ≤ 200) && decide (c.peers.length ≤ 200) && decide (c.ways.length ≤ 200) && decide (c.tables.length ≤ 200)
def tx1 (c : Cfg) : List UInt8 × Bool := c.ports.foldl ptF (numsI [(c.ports.length : Int)], ok0 c)
def tx2 (c : Cfg) : List UInt8 × Bool := c.peers.foldl prF ((tx1 c).1 ++ numsI [i64of c.tenants, (c.peers.length : Int)], (tx1 c).2)
def tx3 (c : Cfg) : List UInt8 × Bool := c.ways.foldl wyF ((tx2 c).1 ++ numsI [(c.ways.length : Int)], (tx2 c).2)
def txR (c : Cfg) : List UInt8 × Bool := c.tables.foldl tbF ((tx3 c).1 ++ numsI [(c.tables.length : Int)], (tx3 c).2)
theorem gfold_ok {α : Type} (g : List UInt8 × Bool → α → List UInt8 × Bool) (hg : ∀ p x, p.2 = false → g p x = p) {t : List α} {p : List UInt8 × Bool} (h : (t.foldl g p).2 = true) : p.2 = true := by
  cases hp : p.2
  · rw [gfold_stuck g hg _ _ hp, hp] at h; cases h
  · rfl
theorem ok0_len {c : Cfg} (h : ok0 c = true) : c.ports.length ≤ 200 ∧ c.peers.length ≤ 200 ∧ c.ways.length ≤ 200 ∧ c.tables.length ≤ 200 := by
  simp only [ok0, Bool.and_eq_true, decide_eq_true_eq] at h
  exact ⟨h.1.1.1, h.1.1.2, h.1.2, h.2⟩
theorem tx1_ok {c : Cfg} (h : (tx1 c).2 = true) : ok0 c = true := gfold_ok ptF ptF_stuck h
theorem tx2_ok {c : Cfg} (h : (tx2 c).2 = true) : ok0 c = true := tx1_ok (gfold_ok prF prF_stuck (p := ((tx1 c).1 ++ numsI [i64of c.tenants, (c.peers.length : Int)], (tx1 c).2)) h)
theorem tx3_ok {c : Cfg} (h : (tx3 c).2 = true) : ok0 c = true := tx2_ok (gfold_ok wyF wyF_stuck (p := ((tx2 c).1 ++ numsI [(c.ways.length : Int)], (tx2 c).2)) h)
theorem gfold_lenB {α : Type} (g : List UInt8 × Bool → α → List UInt8 × Bool) (hg : ∀ p x, p.2 = false → g p x = p) {B : Nat} (hb : ∀ p x, (g p x).1.length ≤ p.1.length + B) {t : List α} {p : List UInt8 × Bool} (h : p.2 = true → t.length ≤ 200) : (t.foldl g p).1.length ≤ p.1.length + 200 * B := by
  cases hp : p.2
  · rw [gfold_stuck g hg _ _ hp]; omega
  · have h1 := gfold_len g hb t p
    have h2 : t.length * B ≤ 200 * B := Nat.mul_le_mul_right _ (h hp)
    omega
theorem tx1_len (c : Cfg) : (tx1 c).1.length ≤ 1700000 := by
  have := gfold_lenB ptF ptF_stuck ptF_len (t := c.ports) (p := (numsI [(c.ports.length : Int)], ok0 c)) fun h => (ok0_len h).1
  simp only [numsI_len, List.length_cons, List.length_nil] at this
  unfold tx1
  omega
theorem tx2_len (c : Cfg) : (tx2 c).1.length ≤ 1800000 := by
  have h0 := tx1_len c
  have := gfold_lenB prF prF_stuck prF_len (t := c.peers) (p := ((tx1 c).1 ++ numsI [i64of c.tenants, (c.peers.length : Int)], (tx1 c).2)) fun h => (ok0_len (tx1_ok h)).2.1
  simp only [List.length_append, numsI_len, List.length_cons, List.length_nil] at this
  unfold tx2
  omega
theorem tx3_len (c : Cfg) : (tx3 c).1.length ≤ 1900000 := by
  have h0 := tx2_len c
  have := gfold_lenB wyF wyF_stuck wyF_len (t := c.ways) (p := ((tx2 c).1 ++ numsI [(c.ways.length : Int)], (tx2 c).2)) fun h => (ok0_len (tx2_ok h)).2.2.1
  simp only [List.length_append, numsI_len, List.length_cons, List.length_nil] at this
  unfold tx3
  omega
theorem txR_len (c : Cfg) : (txR c).1.length ≤ 900000000 := by
  have h0 := tx3_len c
  have := gfold_lenB tbF tbF_stuck tbF_len (t := c.tables) (p := ((tx3 c).1 ++ numsI [(c.tables.length : Int)], (tx3 c).2)) fun h => (ok0_len (tx3_ok h)).2.2.2
  simp only [List.length_append, numsI_len, List.length_cons, List.length_nil] at this
  unfold txR
  omega
theorem text_d (c : Cfg) : PDoes Try.prog 13 [.agg (cfgC c)] (.tup [.s (txR c).1, .b (txR c).2]) := by
  refine PDoes.of_bodyN Try.func13 rfl (by kernel_rfl) rfl rfl ?_
  refine AW.seq ?_
  refine AW.text ?_
  refine RG.runG ty_ok 0 400 rfl ?_
  refine RG.nil ?_
  refine AW.cut (ι := Bool) (fun b => [(1, .own 1 1 0), (4, .b b)]) (fun _ => [(1, ⟨1, some (.box 31 (cfgC c))⟩)]) (fun b => b = ok0 c) ?_ ?_
  · refine AW.text ?_
    have e1 : decide (((c.ports.map encPts).length : Int) ≤ 200) = decide (c.ports.length ≤ 200) := by rw [List.length_map]; exact decide_eq_decide.2 (by omega)
    have e2 : decide (((c.peers.map encPr).length : Int) ≤ 200) = decide (c.peers.length ≤ 200) := by rw [List.length_map]; exact decide_eq_decide.2 (by omega)
    have e3 : decide (((c.ways.map encWy).length : Int) ≤ 200) = decide (c.ways.length ≤ 200) := by rw [List.length_map]; exact decide_eq_decide.2 (by omega)
    have e4 : decide (((c.tables.map encTab).length : Int) ≤ 200) = decide (c.tables.length ≤ 200) := by rw [List.length_map]; exact decide_eq_decide.2 (by omega)
    cases h1 : decide (c.ports.length ≤ 200)
    · refine RG.runO ty_ok 0 [(19, .b false)] 400 rfl ⟨congrArg AV.b (e1.trans h1), trivial⟩ ?_
      refine RG.nil ⟨false, by simp [ok0, h1], (by first | exact trivial | (repeat (first | exact trivial | refine ⟨Rn.is rfl rfl, ?_⟩ | refine ⟨Rn.ownIs rfl rfl rfl, ?_⟩ | refine ⟨Rn.rowIs rfl rfl rfl, ?_⟩ | refine ⟨WkB1.row rfl rfl, ?_⟩ | refine ⟨WkB1.same rfl rfl rfl, ?_⟩))), (by first | exact trivial | (repeat (first | exact trivial | refine ⟨Rn.is rfl rfl, ?_⟩ | refine ⟨Rn.ownIs rfl rfl rfl, ?_⟩ | refine ⟨Rn.rowIs rfl rfl rfl, ?_⟩ | refine ⟨WkB1.row rfl rfl, ?_⟩ | refine ⟨WkB1.same rfl rfl rfl, ?_⟩)))⟩
    cases h2 : decide (c.peers.length ≤ 200)
    · refine RG.runO ty_ok 0 [(19, .b true), (25, .b false)] 400 rfl ⟨congrArg AV.b (e2.trans h2), congrArg AV.b (e1.trans h1), trivial⟩ ?_
      refine RG.nil ⟨false, by simp [ok0, h2], (by first | exact trivial | (repeat (first | exact trivial | refine ⟨Rn.is rfl rfl, ?_⟩ | refine ⟨Rn.ownIs rfl rfl rfl, ?_⟩ | refine ⟨Rn.rowIs rfl rfl rfl, ?_⟩ | refine ⟨WkB1.row rfl rfl, ?_⟩ | refine ⟨WkB1.same rfl rfl rfl, ?_⟩))), (by first | exact trivial | (repeat (first | exact trivial | refine ⟨Rn.is rfl rfl, ?_⟩ | refine ⟨Rn.ownIs rfl rfl rfl, ?_⟩ | refine ⟨Rn.rowIs rfl rfl rfl, ?_⟩ | refine ⟨WkB1.row rfl rfl, ?_⟩ | refine ⟨WkB1.same rfl rfl rfl, ?_⟩)))⟩
    cases h3 : decide (c.ways.length ≤ 200)
    · refine RG.runO ty_ok 0 [(19, .b true), (25, .b true), (32, .b false)] 400 rfl ⟨congrArg AV.b (e3.trans h3), congrArg AV.b (e2.trans h2), congrArg AV.b (e1.trans h1), trivial⟩ ?_
      refine RG.nil ⟨false, by simp [ok0, h3], (by first | exact trivial | (repeat (first | exact trivial | refine ⟨Rn.is rfl rfl, ?_⟩ | refine ⟨Rn.ownIs rfl rfl rfl, ?_⟩ | refine ⟨Rn.rowIs rfl rfl rfl, ?_⟩ | refine ⟨WkB1.row rfl rfl, ?_⟩ | refine ⟨WkB1.same rfl rfl rfl, ?_⟩))), (by first | exact trivial | (repeat (first | exact trivial | refine ⟨Rn.is rfl rfl, ?_⟩ | refine ⟨Rn.ownIs rfl rfl rfl, ?_⟩ | refine ⟨Rn.rowIs rfl rfl rfl, ?_⟩ | refine ⟨WkB1.row rfl rfl, ?_⟩ | refine ⟨WkB1.same rfl rfl rfl, ?_⟩)))⟩
    cases h4 : decide (c.tables.length ≤ 200)
    · refine RG.runO ty_ok 0 [(19, .b true), (25, .b true), (32, .b true), (38, .b false)] 400 rfl ⟨congrArg AV.b (e4.trans h4), congrArg AV.b (e3.trans h3), congrArg AV.b (e2.trans h2), congrArg AV.b (e1.trans h1), trivial⟩ ?_
      refine RG.nil ⟨false, by simp [ok0, h4], (by first | exact trivial | (repeat (first | exact trivial | refine ⟨Rn.is rfl rfl, ?_⟩ | refine ⟨Rn.ownIs rfl rfl rfl, ?_⟩ | refine ⟨Rn.rowIs rfl rfl rfl, ?_⟩ | refine ⟨WkB1.row rfl rfl, ?_⟩ | refine ⟨WkB1.same rfl rfl rfl, ?_⟩))), (by first | exact trivial | (repeat (first | exact trivial | refine ⟨Rn.is rfl rfl, ?_⟩ | refine ⟨Rn.ownIs rfl rfl rfl, ?_⟩ | refine ⟨Rn.rowIs rfl rfl rfl, ?_⟩ | refine ⟨WkB1.row rfl rfl, ?_⟩ | refine ⟨WkB1.same rfl rfl rfl, ?_⟩)))⟩
    · refine RG.runO ty_ok 0 [(19, .b true), (25, .b true), (32, .b true), (38, .b true)] 400 rfl ⟨congrArg AV.b (e4.trans h4), congrArg AV.b (e3.trans h3), congrArg AV.b (e2.trans h2), congrArg AV.b (e1.trans h1), trivial⟩ ?_
      refine RG.nil ⟨true, by simp [ok0, h1, h2, h3, h4], (by first | exact trivial | (repeat (first | exact trivial | refine ⟨Rn.is rfl rfl, ?_⟩ | refine ⟨Rn.ownIs rfl rfl rfl, ?_⟩ | refine ⟨Rn.rowIs rfl rfl rfl, ?_⟩ | refine ⟨WkB1.row rfl rfl, ?_⟩ | refine ⟨WkB1.same rfl rfl rfl, ?_⟩))), (by first | exact trivial | (repeat (first | exact trivial | refine ⟨Rn.is rfl rfl, ?_⟩ | refine ⟨Rn.ownIs rfl rfl rfl, ?_⟩ | refine ⟨Rn.rowIs rfl rfl rfl, ?_⟩ | refine ⟨WkB1.row rfl rfl, ?_⟩ | refine ⟨WkB1.same rfl rfl rfl, ?_⟩)))⟩
  rintro b rfl
  skip; (repeat (first | with_reducible refine AW.seq ?_ | with_reducible refine AW.skip ?_ | with_reducible refine AW.block ?_ | ((with_reducible refine RG.id ?_); refine RG.nil ⟨?_, ?_⟩; · kernel_rfl) | ((with_reducible refine RG.id ?_); refine RG.nil ?_) | ((with_reducible refine AW.text ?_); refine RG.runG ty_ok 0 400 rfl ?_) | ((with_reducible refine AW.draws mixed_ok ?_); refine RG.runG ty_ok 0 400 rfl ?_)))
  refine RG.callS rfl rfl rfl rfl rfl (d_nums [(((c.ports.map encPts).length : Nat) : Int)] (by simp)) rfl rfl ?_
  refine RG.runG ty_ok 0 400 rfl ?_; (repeat (first | with_reducible refine AW.seq ?_ | with_reducible refine AW.skip ?_ | with_reducible refine AW.block ?_ | ((with_reducible refine RG.id ?_); refine RG.nil ⟨?_, ?_⟩; · kernel_rfl) | ((with_reducible refine RG.id ?_); refine RG.nil ?_) | ((with_reducible refine AW.text ?_); refine RG.runG ty_ok 0 400 rfl ?_) | ((with_reducible refine AW.draws mixed_ok ?_); refine RG.runG ty_ok 0 400 rfl ?_)))
  -- the ports
  have hlP : ok0 c = true → c.ports.length ≤ 200 ∧ c.peers.length ≤ 200 ∧ c.ways.length ≤ 200 ∧ c.tables.length ≤ 200 := fun h => by
    simp only [ok0, Bool.and_eq_true, decide_eq_true_eq] at h
    exact ⟨h.1.1.1, h.1.1.2, h.1.2, h.2⟩
  refine AW.toExit (ι := Unit) (fun _ => [(1, .own 1 1 0), (4, .b (tx1 c).2), (5, .s (tx1 c).1)]) (fun _ => [(1, ⟨1, some (.box 31 (cfgC c))⟩)]) (fun _ => True) ?_ ?_
  · refine AW.loopL (ι := Nat) (fun k => [(1, .own 1 1 0), (4, .b (gK ptF (numsI [(c.ports.length : Int)], ok0 c) c.ports k).2), (5, .s (gK ptF (numsI [(c.ports.length : Int)], ok0 c) c.ports k).1), (6, .i .i64 k)]) (fun _ => [(1, ⟨1, some (.box 31 (cfgC c))⟩)]) (fun k => k ≤ c.ports.length) (fun k => c.ports.length - k) 0 (Nat.zero_le _) ⟨.ownIs rfl rfl rfl, Rn.is rfl rfl, .is ?_ rfl, Rn.is rfl rfl, trivial⟩ (by first | exact trivial | (repeat (first | exact trivial | refine ⟨Rn.is rfl rfl, ?_⟩ | refine ⟨Rn.ownIs rfl rfl rfl, ?_⟩ | refine ⟨Rn.rowIs rfl rfl rfl, ?_⟩ | refine ⟨WkB1.row rfl rfl, ?_⟩ | refine ⟨WkB1.same rfl rfl rfl, ?_⟩))) fun k hk => ?_
    · show AV.s (numsI [((c.ports.map encPts).length : Int)]) = AV.s (numsI [(c.ports.length : Int)])
      rw [List.length_map]
    obtain ⟨P, hP⟩ : ∃ P, P = gK ptF (numsI [(c.ports.length : Int)], ok0 c) c.ports k := ⟨_, rfl⟩
    rw [← hP]
    skip; (repeat (first | with_reducible refine AW.seq ?_ | with_reducible refine AW.skip ?_ | with_reducible refine AW.block ?_ | ((with_reducible refine RG.id ?_); refine RG.nil ⟨?_, ?_⟩; · kernel_rfl) | ((with_reducible refine RG.id ?_); refine RG.nil ?_) | ((with_reducible refine AW.text ?_); refine RG.run ty_ok 0 400 rfl ?_) | ((with_reducible refine AW.draws mixed_ok ?_); refine RG.run ty_ok 0 400 rfl ?_)))
    rcases Nat.lt_or_ge k c.ports.length with h | h
    · rw [decide_eq_true (show (k : Int) < ((c.ports.map encPts).length : Int) by rw [List.length_map]; omega)]
      refine RG.runG ty_ok 0 400 rfl ?_; (repeat (first | with_reducible refine AW.seq ?_ | with_reducible refine AW.skip ?_ | with_reducible refine AW.block ?_ | ((with_reducible refine RG.id ?_); refine RG.nil ⟨?_, ?_⟩; · kernel_rfl) | ((with_reducible refine RG.id ?_); refine RG.nil ?_) | ((with_reducible refine AW.text ?_); refine RG.runG ty_ok 0 400 rfl ?_) | ((with_reducible refine AW.draws mixed_ok ?_); refine RG.runG ty_ok 0 400 rfl ?_)))
      refine AW.cond rfl (fun hok => ?_) (fun hok => ?_)
      · have h200 := (hlP (gK_ok ptF ptF_stuck (hP ▸ hok))).1
        obtain ⟨r, hr⟩ : ∃ r, c.ports[k]? = some r := ⟨_, List.getElem?_eq_getElem h⟩
        have hn := gK_next ptF (p := (numsI [(c.ports.length : Int)], ok0 c)) hr
        rw [← hP] at hn
        simp only [ptF, hok, if_pos] at hn
        have hL : P.1.length ≤ 8 + 200 * 8008 := by
          have := gfold_len ptF ptF_len (c.ports.take k) (numsI [(c.ports.length : Int)], ok0 c)
          rw [hP]
          unfold gK
          rw [numsI_len, List.length_take] at this
          simp only [List.length_cons, List.length_nil] at this
          omega
        have hidx : (c.ports.map encPts)[k]? = some (encPts r) := by rw [List.getElem?_map, hr]; rfl
        skip; (repeat (first | with_reducible refine AW.seq ?_ | with_reducible refine AW.skip ?_ | with_reducible refine AW.block ?_ | ((with_reducible refine RG.id ?_); refine RG.nil ⟨?_, ?_⟩; · kernel_rfl) | ((with_reducible refine RG.id ?_); refine RG.nil ?_) | ((with_reducible refine AW.text ?_); refine RG.runG ty_ok 0 400 rfl ?_) | ((with_reducible refine AW.draws mixed_ok ?_); refine RG.runG ty_ok 0 400 rfl ?_)))
        refine RG.opS rfl (op_index rfl (tab_ok ty_ok rfl) rfl (tab_ok ty_ok rfl) rfl rfl hidx rfl) rfl ?_
        refine RG.runG ty_ok 0 400 rfl ?_; (repeat (first | with_reducible refine AW.seq ?_ | with_reducible refine AW.skip ?_ | with_reducible refine AW.block ?_ | ((with_reducible refine RG.id ?_); refine RG.nil ⟨?_, ?_⟩; · kernel_rfl) | ((with_reducible refine RG.id ?_); refine RG.nil ?_) | ((with_reducible refine AW.text ?_); refine RG.runG ty_ok 0 400 rfl ?_) | ((with_reducible refine AW.draws mixed_ok ?_); refine RG.runG ty_ok 0 400 rfl ?_)))
        refine RG.opS rfl (op_index rfl (tab_ok ty_ok rfl) rfl (tab_ok ty_ok rfl) rfl rfl hidx rfl) rfl ?_
        refine RG.runG ty_ok 0 400 rfl ?_; (repeat (first | with_reducible refine AW.seq ?_ | with_reducible refine AW.skip ?_ | with_reducible refine AW.block ?_ | ((with_reducible refine RG.id ?_); refine RG.nil ⟨?_, ?_⟩; · kernel_rfl) | ((with_reducible refine RG.id ?_); refine RG.nil ?_) | ((with_reducible refine AW.text ?_); refine RG.runG ty_ok 0 400 rfl ?_) | ((with_reducible refine AW.draws mixed_ok ?_); refine RG.runG ty_ok 0 400 rfl ?_)))
        refine RG.callS rfl rfl rfl rfl rfl (d_nums [(((r.map encPt).length : Nat) : Int)] (by simp)) rfl rfl ?_
        refine RG.runG ty_ok 0 400 rfl ?_; (repeat (first | with_reducible refine AW.seq ?_ | with_reducible refine AW.skip ?_ | with_reducible refine AW.block ?_ | ((with_reducible refine RG.id ?_); refine RG.nil ⟨?_, ?_⟩; · kernel_rfl) | ((with_reducible refine RG.id ?_); refine RG.nil ?_) | ((with_reducible refine AW.text ?_); refine RG.runG ty_ok 0 400 rfl ?_) | ((with_reducible refine AW.draws mixed_ok ?_); refine RG.runG ty_ok 0 400 rfl ?_)))
        refine RG.opS rfl (op_cat rfl rfl rfl (by rw [numsI_len, List.length_singleton]; omega)) rfl ?_
        refine RG.runG ty_ok 0 400 rfl ?_; (repeat (first | with_reducible refine AW.seq ?_ | with_reducible refine AW.skip ?_ | with_reducible refine AW.block ?_ | ((with_reducible refine RG.id ?_); refine RG.nil ⟨?_, ?_⟩; · kernel_rfl) | ((with_reducible refine RG.id ?_); refine RG.nil ?_) | ((with_reducible refine AW.text ?_); refine RG.runG ty_ok 0 400 rfl ?_) | ((with_reducible refine AW.draws mixed_ok ?_); refine RG.runG ty_ok 0 400 rfl ?_)))
        refine AW.loopL (ι := Nat) (fun j => [(1, .own 1 1 0), (4, .b (decide (r.length ≤ 200))), (5, .s (P.1 ++ numsI [(r.length : Int)] ++ (r.take j).flatMap ptB)), (6, .i .i64 k), (7, .i .i64 j)]) (fun _ => [(1, ⟨1, some (.box 31 (cfgC c))⟩)]) (fun j => j ≤ r.length ∧ (r.length ≤ 200 ∨ j = 0)) (fun j => r.length - j) 0 ⟨Nat.zero_le _, .inr rfl⟩ ⟨.ownIs rfl rfl rfl, .is ?_ rfl, .is ?_ rfl, Rn.is rfl rfl, Rn.is rfl rfl, trivial⟩ (by first | exact trivial | (repeat (first | exact trivial | refine ⟨Rn.is rfl rfl, ?_⟩ | refine ⟨Rn.ownIs rfl rfl rfl, ?_⟩ | refine ⟨Rn.rowIs rfl rfl rfl, ?_⟩ | refine ⟨WkB1.row rfl rfl, ?_⟩ | refine ⟨WkB1.same rfl rfl rfl, ?_⟩))) fun j ⟨hj, hj0⟩ => ?_
        · show AV.b (decide (((r.map encPt).length : Int) ≤ 200)) = _
          rw [List.length_map]
          congr 1
          exact decide_eq_decide.2 (by omega)
        · show AV.s (P.1 ++ numsI [((r.map encPt).length : Int)]) = _
          simp
        skip; (repeat (first | with_reducible refine AW.seq ?_ | with_reducible refine AW.skip ?_ | with_reducible refine AW.block ?_ | ((with_reducible refine RG.id ?_); refine RG.nil ⟨?_, ?_⟩; · kernel_rfl) | ((with_reducible refine RG.id ?_); refine RG.nil ?_) | ((with_reducible refine AW.text ?_); refine RG.run ty_ok 0 400 rfl ?_) | ((with_reducible refine AW.draws mixed_ok ?_); refine RG.run ty_ok 0 400 rfl ?_)))
        refine RG.opS rfl (op_index rfl (tab_ok ty_ok rfl) rfl (tab_ok ty_ok rfl) rfl rfl hidx rfl) rfl ?_
        refine RG.run ty_ok 0 400 rfl ?_; (repeat (first | with_reducible refine AW.seq ?_ | with_reducible refine AW.skip ?_ | with_reducible refine AW.block ?_ | ((with_reducible refine RG.id ?_); refine RG.nil ⟨?_, ?_⟩; · kernel_rfl) | ((with_reducible refine RG.id ?_); refine RG.nil ?_) | ((with_reducible refine AW.text ?_); refine RG.run ty_ok 0 400 rfl ?_) | ((with_reducible refine AW.draws mixed_ok ?_); refine RG.run ty_ok 0 400 rfl ?_)))
        rcases Nat.lt_or_ge j r.length with hj' | hj'
        · rw [decide_eq_true (show (j : Int) < ((r.map encPt).length : Int) by rw [List.length_map]; omega)]
          refine RG.runG ty_ok 0 400 rfl ?_; (repeat (first | with_reducible refine AW.seq ?_ | with_reducible refine AW.skip ?_ | with_reducible refine AW.block ?_ | ((with_reducible refine RG.id ?_); refine RG.nil ⟨?_, ?_⟩; · kernel_rfl) | ((with_reducible refine RG.id ?_); refine RG.nil ?_) | ((with_reducible refine AW.text ?_); refine RG.runG ty_ok 0 400 rfl ?_) | ((with_reducible refine AW.draws mixed_ok ?_); refine RG.runG ty_ok 0 400 rfl ?_)))
          refine AW.cond rfl (fun h2 => ?_) (fun h2 => ?_)
          · have h2 : r.length ≤ 200 := by simpa using h2
            obtain ⟨x, hx⟩ : ∃ x, r[j]? = some x := ⟨_, List.getElem?_eq_getElem hj'⟩
            have hidx2 : (r.map encPt)[j]? = some (encPt x) := by rw [List.getElem?_map, hx]; rfl
            skip; (repeat (first | with_reducible refine AW.seq ?_ | with_reducible refine AW.skip ?_ | with_reducible refine AW.block ?_ | ((with_reducible refine RG.id ?_); refine RG.nil ⟨?_, ?_⟩; · kernel_rfl) | ((with_reducible refine RG.id ?_); refine RG.nil ?_) | ((with_reducible refine AW.text ?_); refine RG.runG ty_ok 0 400 rfl ?_) | ((with_reducible refine AW.draws mixed_ok ?_); refine RG.runG ty_ok 0 400 rfl ?_)))
            refine RG.opS rfl (op_index rfl (tab_ok ty_ok rfl) rfl (tab_ok ty_ok rfl) rfl rfl hidx rfl) rfl ?_
            refine RG.runG ty_ok 0 400 rfl ?_; (repeat (first | with_reducible refine AW.seq ?_ | with_reducible refine AW.skip ?_ | with_reducible refine AW.block ?_ | ((with_reducible refine RG.id ?_); refine RG.nil ⟨?_, ?_⟩; · kernel_rfl) | ((with_reducible refine RG.id ?_); refine RG.nil ?_) | ((with_reducible refine AW.text ?_); refine RG.runG ty_ok 0 400 rfl ?_) | ((with_reducible refine AW.draws mixed_ok ?_); refine RG.runG ty_ok 0 400 rfl ?_)))
            refine RG.opS rfl (op_index rfl (tab_ok ty_ok rfl) rfl (tab_ok ty_ok rfl) rfl rfl hidx2 rfl) rfl ?_
            refine RG.runG ty_ok 0 400 rfl ?_; (repeat (first | with_reducible refine AW.seq ?_ | with_reducible refine AW.skip ?_ | with_reducible refine AW.block ?_ | ((with_reducible refine RG.id ?_); refine RG.nil ⟨?_, ?_⟩; · kernel_rfl) | ((with_reducible refine RG.id ?_); refine RG.nil ?_) | ((with_reducible refine AW.text ?_); refine RG.runG ty_ok 0 400 rfl ?_) | ((with_reducible refine AW.draws mixed_ok ?_); refine RG.runG ty_ok 0 400 rfl ?_)))
            refine RG.callS rfl rfl rfl rfl rfl (d_nums [i64of x.kind, i64of x.tenant, i64of x.peer, i64of x.at_, i64of x.cost] (by simp)) rfl rfl ?_
            refine RG.runG ty_ok 0 400 rfl ?_; (repeat (first | with_reducible refine AW.seq ?_ | with_reducible refine AW.skip ?_ | with_reducible refine AW.block ?_ | ((with_reducible refine RG.id ?_); refine RG.nil ⟨?_, ?_⟩; · kernel_rfl) | ((with_reducible refine RG.id ?_); refine RG.nil ?_) | ((with_reducible refine AW.text ?_); refine RG.runG ty_ok 0 400 rfl ?_) | ((with_reducible refine AW.draws mixed_ok ?_); refine RG.runG ty_ok 0 400 rfl ?_)))
            refine RG.opS rfl (op_cat rfl rfl rfl (by simp only [numsI_len, List.length_cons, List.length_nil, List.length_append, pts_len, List.length_take]; omega)) rfl ?_
            refine RG.runG ty_ok 0 400 rfl ?_; (repeat (first | with_reducible refine AW.seq ?_ | with_reducible refine AW.skip ?_ | with_reducible refine AW.block ?_ | ((with_reducible refine RG.id ?_); refine RG.nil ⟨?_, ?_⟩; · kernel_rfl) | ((with_reducible refine RG.id ?_); refine RG.nil ?_) | ((with_reducible refine AW.text ?_); refine RG.runG ty_ok 0 400 rfl ?_) | ((with_reducible refine AW.draws mixed_ok ?_); refine RG.runG ty_ok 0 400 rfl ?_)))
            refine ⟨j + 1, ⟨⟨by omega, .inl h2⟩, by omega⟩, ⟨.ownIs rfl rfl rfl, Rn.is rfl rfl, .is ?_ rfl, Rn.is rfl rfl, .is (i64_next hj' (by omega)) rfl, trivial⟩, (by first | exact trivial | (repeat (first | exact trivial | refine ⟨Rn.is rfl rfl, ?_⟩ | refine ⟨Rn.ownIs rfl rfl rfl, ?_⟩ | refine ⟨Rn.rowIs rfl rfl rfl, ?_⟩ | refine ⟨WkB1.row rfl rfl, ?_⟩ | refine ⟨WkB1.same rfl rfl rfl, ?_⟩)))⟩
            show AV.s (P.1 ++ numsI [(r.length : Int)] ++ (r.take j).flatMap ptB ++ numsI [i64of x.kind, i64of x.tenant, i64of x.peer, i64of x.at_, i64of x.cost]) = _
            rw [List.take_add_one, hx, List.flatMap_append, ← List.append_assoc (P.1 ++ numsI [(r.length : Int)])]
            simp only [Option.toList_some, List.flatMap_cons, List.flatMap_nil, List.append_nil, ptB]
          · refine AW.exit ?_
            refine Eq.mpr (if_pos rfl) ?_
            skip; (repeat (first | with_reducible refine AW.seq ?_ | with_reducible refine AW.skip ?_ | with_reducible refine AW.block ?_ | ((with_reducible refine RG.id ?_); refine RG.nil ⟨?_, ?_⟩; · kernel_rfl) | ((with_reducible refine RG.id ?_); refine RG.nil ?_) | ((with_reducible refine AW.text ?_); refine RG.runG ty_ok 0 400 rfl ?_) | ((with_reducible refine AW.draws mixed_ok ?_); refine RG.runG ty_ok 0 400 rfl ?_)))
            have h2 : ¬ r.length ≤ 200 := by simpa using h2
            refine ⟨k + 1, ⟨by omega, by omega⟩, ⟨.ownIs rfl rfl rfl, .is ?_ rfl, .is ?_ rfl, .is (i64_next h (by omega)) rfl, trivial⟩, (by first | exact trivial | (repeat (first | exact trivial | refine ⟨Rn.is rfl rfl, ?_⟩ | refine ⟨Rn.ownIs rfl rfl rfl, ?_⟩ | refine ⟨Rn.rowIs rfl rfl rfl, ?_⟩ | refine ⟨WkB1.row rfl rfl, ?_⟩ | refine ⟨WkB1.same rfl rfl rfl, ?_⟩)))⟩
            · rw [hn]
              rfl
            · rw [hn, if_neg h2, hj0.resolve_left h2]
              rfl
        · rw [decide_eq_false (show ¬ (j : Int) < ((r.map encPt).length : Int) by rw [List.length_map]; omega)]
          refine RG.runG ty_ok 0 400 rfl ?_; (repeat (first | with_reducible refine AW.seq ?_ | with_reducible refine AW.skip ?_ | with_reducible refine AW.block ?_ | ((with_reducible refine RG.id ?_); refine RG.nil ⟨?_, ?_⟩; · kernel_rfl) | ((with_reducible refine RG.id ?_); refine RG.nil ?_) | ((with_reducible refine AW.text ?_); refine RG.runG ty_ok 0 400 rfl ?_) | ((with_reducible refine AW.draws mixed_ok ?_); refine RG.runG ty_ok 0 400 rfl ?_)))
          refine AW.condF rfl ?_
          refine AW.exit ?_
          refine Eq.mpr (if_pos rfl) ?_
          skip; (repeat (first | with_reducible refine AW.seq ?_ | with_reducible refine AW.skip ?_ | with_reducible refine AW.block ?_ | ((with_reducible refine RG.id ?_); refine RG.nil ⟨?_, ?_⟩; · kernel_rfl) | ((with_reducible refine RG.id ?_); refine RG.nil ?_) | ((with_reducible refine AW.text ?_); refine RG.runG ty_ok 0 400 rfl ?_) | ((with_reducible refine AW.draws mixed_ok ?_); refine RG.runG ty_ok 0 400 rfl ?_)))
          have h2 : r.length ≤ 200 := by omega
          refine ⟨k + 1, ⟨by omega, by omega⟩, ⟨.ownIs rfl rfl rfl, .is ?_ rfl, .is ?_ rfl, .is (i64_next h (by omega)) rfl, trivial⟩, (by first | exact trivial | (repeat (first | exact trivial | refine ⟨Rn.is rfl rfl, ?_⟩ | refine ⟨Rn.ownIs rfl rfl rfl, ?_⟩ | refine ⟨Rn.rowIs rfl rfl rfl, ?_⟩ | refine ⟨WkB1.row rfl rfl, ?_⟩ | refine ⟨WkB1.same rfl rfl rfl, ?_⟩)))⟩
          · rw [hn]
            rfl
          · rw [hn, if_pos h2]
            show AV.s (P.1 ++ numsI [(r.length : Int)] ++ (r.take j).flatMap ptB) = _
            rw [List.take_of_length_le hj']
      · refine AW.exit ?_
        have e := gK_all ptF ptF_stuck hk (.inr (hP ▸ hok))
        refine ⟨rfl, (), trivial, ⟨.ownIs rfl rfl rfl, .is ?_ rfl, .is ?_ rfl, trivial⟩, (by first | exact trivial | (repeat (first | exact trivial | refine ⟨Rn.is rfl rfl, ?_⟩ | refine ⟨Rn.ownIs rfl rfl rfl, ?_⟩ | refine ⟨Rn.rowIs rfl rfl rfl, ?_⟩ | refine ⟨WkB1.row rfl rfl, ?_⟩ | refine ⟨WkB1.same rfl rfl rfl, ?_⟩)))⟩
        · rw [show tx1 c = P from e.symm.trans hP.symm]; rfl
        · rw [show tx1 c = P from e.symm.trans hP.symm]; rfl
    · rw [decide_eq_false (show ¬ (k : Int) < ((c.ports.map encPts).length : Int) by rw [List.length_map]; omega)]
      refine RG.runG ty_ok 0 400 rfl ?_; (repeat (first | with_reducible refine AW.seq ?_ | with_reducible refine AW.skip ?_ | with_reducible refine AW.block ?_ | ((with_reducible refine RG.id ?_); refine RG.nil ⟨?_, ?_⟩; · kernel_rfl) | ((with_reducible refine RG.id ?_); refine RG.nil ?_) | ((with_reducible refine AW.text ?_); refine RG.runG ty_ok 0 400 rfl ?_) | ((with_reducible refine AW.draws mixed_ok ?_); refine RG.runG ty_ok 0 400 rfl ?_)))
      refine AW.condF rfl ?_
      refine AW.exit ?_
      have e := gK_all ptF ptF_stuck (p := (numsI [(c.ports.length : Int)], ok0 c)) hk (.inl (by omega))
      refine ⟨rfl, (), trivial, ⟨.ownIs rfl rfl rfl, .is ?_ rfl, .is ?_ rfl, trivial⟩, (by first | exact trivial | (repeat (first | exact trivial | refine ⟨Rn.is rfl rfl, ?_⟩ | refine ⟨Rn.ownIs rfl rfl rfl, ?_⟩ | refine ⟨Rn.rowIs rfl rfl rfl, ?_⟩ | refine ⟨WkB1.row rfl rfl, ?_⟩ | refine ⟨WkB1.same rfl rfl rfl, ?_⟩)))⟩
      · rw [show tx1 c = P from e.symm.trans hP.symm]; rfl
      · rw [show tx1 c = P from e.symm.trans hP.symm]; rfl
  intro _ _
  skip; (repeat (first | with_reducible refine AW.seq ?_ | with_reducible refine AW.skip ?_ | with_reducible refine AW.block ?_ | ((with_reducible refine RG.id ?_); refine RG.nil ⟨?_, ?_⟩; · kernel_rfl) | ((with_reducible refine RG.id ?_); refine RG.nil ?_) | ((with_reducible refine AW.text ?_); refine RG.runG ty_ok 0 400 rfl ?_) | ((with_reducible refine AW.draws mixed_ok ?_); refine RG.runG ty_ok 0 400 rfl ?_)))
  refine RG.callS rfl rfl rfl rfl rfl (d_nums [i64of c.tenants, (((c.peers.map encPr).length : Nat) : Int)] (by simp)) rfl rfl ?_
  refine RG.runG ty_ok 0 400 rfl ?_; (repeat (first | with_reducible refine AW.seq ?_ | with_reducible refine AW.skip ?_ | with_reducible refine AW.block ?_ | ((with_reducible refine RG.id ?_); refine RG.nil ⟨?_, ?_⟩; · kernel_rfl) | ((with_reducible refine RG.id ?_); refine RG.nil ?_) | ((with_reducible refine AW.text ?_); refine RG.runG ty_ok 0 400 rfl ?_) | ((with_reducible refine AW.draws mixed_ok ?_); refine RG.runG ty_ok 0 400 rfl ?_)))
  refine RG.opS rfl (op_cat rfl rfl rfl (by have := tx1_len c; simp only [numsI_len, List.length_cons, List.length_nil]; omega)) rfl ?_
  refine RG.runG ty_ok 0 400 rfl ?_; (repeat (first | with_reducible refine AW.seq ?_ | with_reducible refine AW.skip ?_ | with_reducible refine AW.block ?_ | ((with_reducible refine RG.id ?_); refine RG.nil ⟨?_, ?_⟩; · kernel_rfl) | ((with_reducible refine RG.id ?_); refine RG.nil ?_) | ((with_reducible refine AW.text ?_); refine RG.runG ty_ok 0 400 rfl ?_) | ((with_reducible refine AW.draws mixed_ok ?_); refine RG.runG ty_ok 0 400 rfl ?_)))
  refine AW.toExit (ι := Unit) (fun _ => [(1, .own 1 1 0), (4, .b (tx2 c).2), (5, .s (tx2 c).1)]) (fun _ => [(1, ⟨1, some (.box 31 (cfgC c))⟩)]) (fun _ => True) ?_ ?_
  · refine AW.loopL (ι := Nat) (fun k => [(1, .own 1 1 0), (4, .b (gK prF ((tx1 c).1 ++ numsI [i64of c.tenants, (c.peers.length : Int)], (tx1 c).2) c.peers k).2), (5, .s (gK prF ((tx1 c).1 ++ numsI [i64of c.tenants, (c.peers.length : Int)], (tx1 c).2) c.peers k).1), (9, .i .i64 k)]) (fun _ => [(1, ⟨1, some (.box 31 (cfgC c))⟩)]) (fun k => k ≤ c.peers.length) (fun k => c.peers.length - k) 0 (Nat.zero_le _) ⟨.ownIs rfl rfl rfl, Rn.is rfl rfl, .is ?_ rfl, Rn.is rfl rfl, trivial⟩ (by first | exact trivial | (repeat (first | exact trivial | refine ⟨Rn.is rfl rfl, ?_⟩ | refine ⟨Rn.ownIs rfl rfl rfl, ?_⟩ | refine ⟨Rn.rowIs rfl rfl rfl, ?_⟩ | refine ⟨WkB1.row rfl rfl, ?_⟩ | refine ⟨WkB1.same rfl rfl rfl, ?_⟩))) fun k hk => ?_
    · show AV.s ((tx1 c).1 ++ numsI [i64of c.tenants, ((c.peers.map encPr).length : Int)]) = AV.s ((tx1 c).1 ++ numsI [i64of c.tenants, (c.peers.length : Int)])
      rw [List.length_map]
    obtain ⟨P, hP⟩ : ∃ P, P = gK prF ((tx1 c).1 ++ numsI [i64of c.tenants, (c.peers.length : Int)], (tx1 c).2) c.peers k := ⟨_, rfl⟩
    rw [← hP]
    skip; (repeat (first | with_reducible refine AW.seq ?_ | with_reducible refine AW.skip ?_ | with_reducible refine AW.block ?_ | ((with_reducible refine RG.id ?_); refine RG.nil ⟨?_, ?_⟩; · kernel_rfl) | ((with_reducible refine RG.id ?_); refine RG.nil ?_) | ((with_reducible refine AW.text ?_); refine RG.run ty_ok 0 400 rfl ?_) | ((with_reducible refine AW.draws mixed_ok ?_); refine RG.run ty_ok 0 400 rfl ?_)))
    rcases Nat.lt_or_ge k c.peers.length with h | h
    · rw [decide_eq_true (show (k : Int) < ((c.peers.map encPr).length : Int) by rw [List.length_map]; omega)]
      refine RG.runG ty_ok 0 400 rfl ?_; (repeat (first | with_reducible refine AW.seq ?_ | with_reducible refine AW.skip ?_ | with_reducible refine AW.block ?_ | ((with_reducible refine RG.id ?_); refine RG.nil ⟨?_, ?_⟩; · kernel_rfl) | ((with_reducible refine RG.id ?_); refine RG.nil ?_) | ((with_reducible refine AW.text ?_); refine RG.runG ty_ok 0 400 rfl ?_) | ((with_reducible refine AW.draws mixed_ok ?_); refine RG.runG ty_ok 0 400 rfl ?_)))
      refine AW.cond rfl (fun hok => ?_) (fun hok => ?_)
      · have h200 := (hlP (tx1_ok (gK_ok prF prF_stuck (p := ((tx1 c).1 ++ numsI [i64of c.tenants, (c.peers.length : Int)], (tx1 c).2)) (hP ▸ hok)))).2.1
        obtain ⟨r, hr⟩ : ∃ r, c.peers[k]? = some r := ⟨_, List.getElem?_eq_getElem h⟩
        have hn := gK_next prF (p := ((tx1 c).1 ++ numsI [i64of c.tenants, (c.peers.length : Int)], (tx1 c).2)) hr
        rw [← hP] at hn
        simp only [prF, hok, if_pos] at hn
        have hL : P.1.length ≤ 1800000000 := by
          have h0 := tx1_len c
          have := gfold_len prF prF_len (c.peers.take k) ((tx1 c).1 ++ numsI [i64of c.tenants, (c.peers.length : Int)], (tx1 c).2)
          rw [hP]
          unfold gK
          simp only [List.length_append, numsI_len, List.length_cons, List.length_nil, List.length_take] at this
          omega
        have hidx : (c.peers.map encPr)[k]? = some (encPr r) := by rw [List.getElem?_map, hr]; rfl
        skip; (repeat (first | with_reducible refine AW.seq ?_ | with_reducible refine AW.skip ?_ | with_reducible refine AW.block ?_ | ((with_reducible refine RG.id ?_); refine RG.nil ⟨?_, ?_⟩; · kernel_rfl) | ((with_reducible refine RG.id ?_); refine RG.nil ?_) | ((with_reducible refine AW.text ?_); refine RG.runG ty_ok 0 400 rfl ?_) | ((with_reducible refine AW.draws mixed_ok ?_); refine RG.runG ty_ok 0 400 rfl ?_)))
        refine RG.opS rfl (op_index rfl (tab_ok ty_ok rfl) rfl (tab_ok ty_ok rfl) rfl rfl hidx rfl) rfl ?_
        refine RG.runG ty_ok 0 400 rfl ?_; (repeat (first | with_reducible refine AW.seq ?_ | with_reducible refine AW.skip ?_ | with_reducible refine AW.block ?_ | ((with_reducible refine RG.id ?_); refine RG.nil ⟨?_, ?_⟩; · kernel_rfl) | ((with_reducible refine RG.id ?_); refine RG.nil ?_) | ((with_reducible refine AW.text ?_); refine RG.runG ty_ok 0 400 rfl ?_) | ((with_reducible refine AW.draws mixed_ok ?_); refine RG.runG ty_ok 0 400 rfl ?_)))
        refine RG.opS rfl (op_index rfl (tab_ok ty_ok rfl) rfl (tab_ok ty_ok rfl) rfl rfl hidx rfl) rfl ?_
        refine RG.runG ty_ok 0 400 rfl ?_; (repeat (first | with_reducible refine AW.seq ?_ | with_reducible refine AW.skip ?_ | with_reducible refine AW.block ?_ | ((with_reducible refine RG.id ?_); refine RG.nil ⟨?_, ?_⟩; · kernel_rfl) | ((with_reducible refine RG.id ?_); refine RG.nil ?_) | ((with_reducible refine AW.text ?_); refine RG.runG ty_ok 0 400 rfl ?_) | ((with_reducible refine AW.draws mixed_ok ?_); refine RG.runG ty_ok 0 400 rfl ?_)))
        refine RG.callS rfl rfl rfl rfl rfl (d_nums [i64of r.a, i64of r.b] (by simp)) rfl rfl ?_
        refine RG.runG ty_ok 0 400 rfl ?_; (repeat (first | with_reducible refine AW.seq ?_ | with_reducible refine AW.skip ?_ | with_reducible refine AW.block ?_ | ((with_reducible refine RG.id ?_); refine RG.nil ⟨?_, ?_⟩; · kernel_rfl) | ((with_reducible refine RG.id ?_); refine RG.nil ?_) | ((with_reducible refine AW.text ?_); refine RG.runG ty_ok 0 400 rfl ?_) | ((with_reducible refine AW.draws mixed_ok ?_); refine RG.runG ty_ok 0 400 rfl ?_)))
        refine RG.opS rfl (op_cat rfl rfl rfl (by simp only [numsI_len, List.length_cons, List.length_nil]; omega)) rfl ?_
        refine RG.runG ty_ok 0 400 rfl ?_; (repeat (first | with_reducible refine AW.seq ?_ | with_reducible refine AW.skip ?_ | with_reducible refine AW.block ?_ | ((with_reducible refine RG.id ?_); refine RG.nil ⟨?_, ?_⟩; · kernel_rfl) | ((with_reducible refine RG.id ?_); refine RG.nil ?_) | ((with_reducible refine AW.text ?_); refine RG.runG ty_ok 0 400 rfl ?_) | ((with_reducible refine AW.draws mixed_ok ?_); refine RG.runG ty_ok 0 400 rfl ?_)))
        refine ⟨k + 1, ⟨by omega, by omega⟩, ⟨.ownIs rfl rfl rfl, .is ?_ rfl, .is ?_ rfl, .is (i64_next h (by omega)) rfl, trivial⟩, (by first | exact trivial | (repeat (first | exact trivial | refine ⟨Rn.is rfl rfl, ?_⟩ | refine ⟨Rn.ownIs rfl rfl rfl, ?_⟩ | refine ⟨Rn.rowIs rfl rfl rfl, ?_⟩ | refine ⟨WkB1.row rfl rfl, ?_⟩ | refine ⟨WkB1.same rfl rfl rfl, ?_⟩)))⟩
        · rw [hn]
          show AV.b P.2 = _
          rw [hok]
        · rw [hn]
          rfl
      · refine AW.exit ?_
        have e := gK_all prF prF_stuck hk (.inr (hP ▸ hok))
        refine ⟨rfl, (), trivial, ⟨.ownIs rfl rfl rfl, .is ?_ rfl, .is ?_ rfl, trivial⟩, (by first | exact trivial | (repeat (first | exact trivial | refine ⟨Rn.is rfl rfl, ?_⟩ | refine ⟨Rn.ownIs rfl rfl rfl, ?_⟩ | refine ⟨Rn.rowIs rfl rfl rfl, ?_⟩ | refine ⟨WkB1.row rfl rfl, ?_⟩ | refine ⟨WkB1.same rfl rfl rfl, ?_⟩)))⟩
        · rw [show tx2 c = P from e.symm.trans hP.symm]; rfl
        · rw [show tx2 c = P from e.symm.trans hP.symm]; rfl
    · rw [decide_eq_false (show ¬ (k : Int) < ((c.peers.map encPr).length : Int) by rw [List.length_map]; omega)]
      refine RG.runG ty_ok 0 400 rfl ?_; (repeat (first | with_reducible refine AW.seq ?_ | with_reducible refine AW.skip ?_ | with_reducible refine AW.block ?_ | ((with_reducible refine RG.id ?_); refine RG.nil ⟨?_, ?_⟩; · kernel_rfl) | ((with_reducible refine RG.id ?_); refine RG.nil ?_) | ((with_reducible refine AW.text ?_); refine RG.runG ty_ok 0 400 rfl ?_) | ((with_reducible refine AW.draws mixed_ok ?_); refine RG.runG ty_ok 0 400 rfl ?_)))
      refine AW.condF rfl ?_
      refine AW.exit ?_
      have e := gK_all prF prF_stuck (p := ((tx1 c).1 ++ numsI [i64of c.tenants, (c.peers.length : Int)], (tx1 c).2)) hk (.inl (by omega))
      refine ⟨rfl, (), trivial, ⟨.ownIs rfl rfl rfl, .is ?_ rfl, .is ?_ rfl, trivial⟩, (by first | exact trivial | (repeat (first | exact trivial | refine ⟨Rn.is rfl rfl, ?_⟩ | refine ⟨Rn.ownIs rfl rfl rfl, ?_⟩ | refine ⟨Rn.rowIs rfl rfl rfl, ?_⟩ | refine ⟨WkB1.row rfl rfl, ?_⟩ | refine ⟨WkB1.same rfl rfl rfl, ?_⟩)))⟩
      · rw [show tx2 c = P from e.symm.trans hP.symm]; rfl
      · rw [show tx2 c = P from e.symm.trans hP.symm]; rfl
  intro _ _
  skip; (repeat (first | with_reducible refine AW.seq ?_ | with_reducible refine AW.skip ?_ | with_reducible refine AW.block ?_ | ((with_reducible refine RG.id ?_); refine RG.nil ⟨?_, ?_⟩; · kernel_rfl) | ((with_reducible refine RG.id ?_); refine RG.nil ?_) | ((with_reducible refine AW.text ?_); refine RG.runG ty_ok 0 400 rfl ?_) | ((with_reducible refine AW.draws mixed_ok ?_); refine RG.runG ty_ok 0 400 rfl ?_)))
  refine RG.callS rfl rfl rfl rfl rfl (d_nums [(((c.ways.map encWy).length : Nat) : Int)] (by simp)) rfl rfl ?_
  refine RG.runG ty_ok 0 400 rfl ?_; (repeat (first | with_reducible refine AW.seq ?_ | with_reducible refine AW.skip ?_ | with_reducible refine AW.block ?_ | ((with_reducible refine RG.id ?_); refine RG.nil ⟨?_, ?_⟩; · kernel_rfl) | ((with_reducible refine RG.id ?_); refine RG.nil ?_) | ((with_reducible refine AW.text ?_); refine RG.runG ty_ok 0 400 rfl ?_) | ((with_reducible refine AW.draws mixed_ok ?_); refine RG.runG ty_ok 0 400 rfl ?_)))
  refine RG.opS rfl (op_cat rfl rfl rfl (by have := tx2_len c; simp only [numsI_len, List.length_cons, List.length_nil]; omega)) rfl ?_
  refine RG.runG ty_ok 0 400 rfl ?_; (repeat (first | with_reducible refine AW.seq ?_ | with_reducible refine AW.skip ?_ | with_reducible refine AW.block ?_ | ((with_reducible refine RG.id ?_); refine RG.nil ⟨?_, ?_⟩; · kernel_rfl) | ((with_reducible refine RG.id ?_); refine RG.nil ?_) | ((with_reducible refine AW.text ?_); refine RG.runG ty_ok 0 400 rfl ?_) | ((with_reducible refine AW.draws mixed_ok ?_); refine RG.runG ty_ok 0 400 rfl ?_)))
  refine AW.toExit (ι := Unit) (fun _ => [(1, .own 1 1 0), (4, .b (tx3 c).2), (5, .s (tx3 c).1)]) (fun _ => [(1, ⟨1, some (.box 31 (cfgC c))⟩)]) (fun _ => True) ?_ ?_
  · refine AW.loopL (ι := Nat) (fun k => [(1, .own 1 1 0), (4, .b (gK wyF ((tx2 c).1 ++ numsI [(c.ways.length : Int)], (tx2 c).2) c.ways k).2), (5, .s (gK wyF ((tx2 c).1 ++ numsI [(c.ways.length : Int)], (tx2 c).2) c.ways k).1), (10, .i .i64 k)]) (fun _ => [(1, ⟨1, some (.box 31 (cfgC c))⟩)]) (fun k => k ≤ c.ways.length) (fun k => c.ways.length - k) 0 (Nat.zero_le _) ⟨.ownIs rfl rfl rfl, Rn.is rfl rfl, .is ?_ rfl, Rn.is rfl rfl, trivial⟩ (by first | exact trivial | (repeat (first | exact trivial | refine ⟨Rn.is rfl rfl, ?_⟩ | refine ⟨Rn.ownIs rfl rfl rfl, ?_⟩ | refine ⟨Rn.rowIs rfl rfl rfl, ?_⟩ | refine ⟨WkB1.row rfl rfl, ?_⟩ | refine ⟨WkB1.same rfl rfl rfl, ?_⟩))) fun k hk => ?_
    · show AV.s ((tx2 c).1 ++ numsI [((c.ways.map encWy).length : Int)]) = AV.s ((tx2 c).1 ++ numsI [(c.ways.length : Int)])
      rw [List.length_map]
    obtain ⟨P, hP⟩ : ∃ P, P = gK wyF ((tx2 c).1 ++ numsI [(c.ways.length : Int)], (tx2 c).2) c.ways k := ⟨_, rfl⟩
    rw [← hP]
    skip; (repeat (first | with_reducible refine AW.seq ?_ | with_reducible refine AW.skip ?_ | with_reducible refine AW.block ?_ | ((with_reducible refine RG.id ?_); refine RG.nil ⟨?_, ?_⟩; · kernel_rfl) | ((with_reducible refine RG.id ?_); refine RG.nil ?_) | ((with_reducible refine AW.text ?_); refine RG.run ty_ok 0 400 rfl ?_) | ((with_reducible refine AW.draws mixed_ok ?_); refine RG.run ty_ok 0 400 rfl ?_)))
    rcases Nat.lt_or_ge k c.ways.length with h | h
    · rw [decide_eq_true (show (k : Int) < ((c.ways.map encWy).length : Int) by rw [List.length_map]; omega)]
      refine RG.runG ty_ok 0 400 rfl ?_; (repeat (first | with_reducible refine AW.seq ?_ | with_reducible refine AW.skip ?_ | with_reducible refine AW.block ?_ | ((with_reducible refine RG.id ?_); refine RG.nil ⟨?_, ?_⟩; · kernel_rfl) | ((with_reducible refine RG.id ?_); refine RG.nil ?_) | ((with_reducible refine AW.text ?_); refine RG.runG ty_ok 0 400 rfl ?_) | ((with_reducible refine AW.draws mixed_ok ?_); refine RG.runG ty_ok 0 400 rfl ?_)))
      refine AW.cond rfl (fun hok => ?_) (fun hok => ?_)
      · have h200 := (hlP (tx2_ok (gK_ok wyF wyF_stuck (p := ((tx2 c).1 ++ numsI [(c.ways.length : Int)], (tx2 c).2)) (hP ▸ hok)))).2.2.1
        obtain ⟨r, hr⟩ : ∃ r, c.ways[k]? = some r := ⟨_, List.getElem?_eq_getElem h⟩
        have hn := gK_next wyF (p := ((tx2 c).1 ++ numsI [(c.ways.length : Int)], (tx2 c).2)) hr
        rw [← hP] at hn
        simp only [wyF, hok, if_pos] at hn
        have hL : P.1.length ≤ 1800000000 := by
          have h0 := tx2_len c
          have := gfold_len wyF wyF_len (c.ways.take k) ((tx2 c).1 ++ numsI [(c.ways.length : Int)], (tx2 c).2)
          rw [hP]
          unfold gK
          simp only [List.length_append, numsI_len, List.length_cons, List.length_nil, List.length_take] at this
          omega
        have hidx : (c.ways.map encWy)[k]? = some (encWy r) := by rw [List.getElem?_map, hr]; rfl
        skip; (repeat (first | with_reducible refine AW.seq ?_ | with_reducible refine AW.skip ?_ | with_reducible refine AW.block ?_ | ((with_reducible refine RG.id ?_); refine RG.nil ⟨?_, ?_⟩; · kernel_rfl) | ((with_reducible refine RG.id ?_); refine RG.nil ?_) | ((with_reducible refine AW.text ?_); refine RG.runG ty_ok 0 400 rfl ?_) | ((with_reducible refine AW.draws mixed_ok ?_); refine RG.runG ty_ok 0 400 rfl ?_)))
        refine RG.opS rfl (op_index rfl (tab_ok ty_ok rfl) rfl (tab_ok ty_ok rfl) rfl rfl hidx rfl) rfl ?_
        refine RG.runG ty_ok 0 400 rfl ?_; (repeat (first | with_reducible refine AW.seq ?_ | with_reducible refine AW.skip ?_ | with_reducible refine AW.block ?_ | ((with_reducible refine RG.id ?_); refine RG.nil ⟨?_, ?_⟩; · kernel_rfl) | ((with_reducible refine RG.id ?_); refine RG.nil ?_) | ((with_reducible refine AW.text ?_); refine RG.runG ty_ok 0 400 rfl ?_) | ((with_reducible refine AW.draws mixed_ok ?_); refine RG.runG ty_ok 0 400 rfl ?_)))
        refine RG.callS rfl rfl rfl rfl rfl (d_nums [i64of r.fro, i64of r.to, i64of r.via] (by simp)) rfl rfl ?_
        refine RG.runG ty_ok 0 400 rfl ?_; (repeat (first | with_reducible refine AW.seq ?_ | with_reducible refine AW.skip ?_ | with_reducible refine AW.block ?_ | ((with_reducible refine RG.id ?_); refine RG.nil ⟨?_, ?_⟩; · kernel_rfl) | ((with_reducible refine RG.id ?_); refine RG.nil ?_) | ((with_reducible refine AW.text ?_); refine RG.runG ty_ok 0 400 rfl ?_) | ((with_reducible refine AW.draws mixed_ok ?_); refine RG.runG ty_ok 0 400 rfl ?_)))
        refine RG.opS rfl (op_cat rfl rfl rfl (by simp only [numsI_len, List.length_cons, List.length_nil]; omega)) rfl ?_
        refine RG.runG ty_ok 0 400 rfl ?_; (repeat (first | with_reducible refine AW.seq ?_ | with_reducible refine AW.skip ?_ | with_reducible refine AW.block ?_ | ((with_reducible refine RG.id ?_); refine RG.nil ⟨?_, ?_⟩; · kernel_rfl) | ((with_reducible refine RG.id ?_); refine RG.nil ?_) | ((with_reducible refine AW.text ?_); refine RG.runG ty_ok 0 400 rfl ?_) | ((with_reducible refine AW.draws mixed_ok ?_); refine RG.runG ty_ok 0 400 rfl ?_)))
        refine ⟨k + 1, ⟨by omega, by omega⟩, ⟨.ownIs rfl rfl rfl, .is ?_ rfl, .is ?_ rfl, .is (i64_next h (by omega)) rfl, trivial⟩, (by first | exact trivial | (repeat (first | exact trivial | refine ⟨Rn.is rfl rfl, ?_⟩ | refine ⟨Rn.ownIs rfl rfl rfl, ?_⟩ | refine ⟨Rn.rowIs rfl rfl rfl, ?_⟩ | refine ⟨WkB1.row rfl rfl, ?_⟩ | refine ⟨WkB1.same rfl rfl rfl, ?_⟩)))⟩
        · rw [hn]
          show AV.b P.2 = _
          rw [hok]
        · rw [hn]
          rfl
      · refine AW.exit ?_
        have e := gK_all wyF wyF_stuck hk (.inr (hP ▸ hok))
        refine ⟨rfl, (), trivial, ⟨.ownIs rfl rfl rfl, .is ?_ rfl, .is ?_ rfl, trivial⟩, (by first | exact trivial | (repeat (first | exact trivial | refine ⟨Rn.is rfl rfl, ?_⟩ | refine ⟨Rn.ownIs rfl rfl rfl, ?_⟩ | refine ⟨Rn.rowIs rfl rfl rfl, ?_⟩ | refine ⟨WkB1.row rfl rfl, ?_⟩ | refine ⟨WkB1.same rfl rfl rfl, ?_⟩)))⟩
        · rw [show tx3 c = P from e.symm.trans hP.symm]; rfl
        · rw [show tx3 c = P from e.symm.trans hP.symm]; rfl
    · rw [decide_eq_false (show ¬ (k : Int) < ((c.ways.map encWy).length : Int) by rw [List.length_map]; omega)]
      refine RG.runG ty_ok 0 400 rfl ?_; (repeat (first | with_reducible refine AW.seq ?_ | with_reducible refine AW.skip ?_ | with_reducible refine AW.block ?_ | ((with_reducible refine RG.id ?_); refine RG.nil ⟨?_, ?_⟩; · kernel_rfl) | ((with_reducible refine RG.id ?_); refine RG.nil ?_) | ((with_reducible refine AW.text ?_); refine RG.runG ty_ok 0 400 rfl ?_) | ((with_reducible refine AW.draws mixed_ok ?_); refine RG.runG ty_ok 0 400 rfl ?_)))
      refine AW.condF rfl ?_
      refine AW.exit ?_
      have e := gK_all wyF wyF_stuck (p := ((tx2 c).1 ++ numsI [(c.ways.length : Int)], (tx2 c).2)) hk (.inl (by omega))
      refine ⟨rfl, (), trivial, ⟨.ownIs rfl rfl rfl, .is ?_ rfl, .is ?_ rfl, trivial⟩, (by first | exact trivial | (repeat (first | exact trivial | refine ⟨Rn.is rfl rfl, ?_⟩ | refine ⟨Rn.ownIs rfl rfl rfl, ?_⟩ | refine ⟨Rn.rowIs rfl rfl rfl, ?_⟩ | refine ⟨WkB1.row rfl rfl, ?_⟩ | refine ⟨WkB1.same rfl rfl rfl, ?_⟩)))⟩
      · rw [show tx3 c = P from e.symm.trans hP.symm]; rfl
      · rw [show tx3 c = P from e.symm.trans hP.symm]; rfl
  intro _ _
  skip; (repeat (first | with_reducible refine AW.seq ?_ | with_reducible refine AW.skip ?_ | with_reducible refine AW.block ?_ | ((with_reducible refine RG.id ?_); refine RG.nil ⟨?_, ?_⟩; · kernel_rfl) | ((with_reducible refine RG.id ?_); refine RG.nil ?_) | ((with_reducible refine AW.text ?_); refine RG.runG ty_ok 0 400 rfl ?_) | ((with_reducible refine AW.draws mixed_ok ?_); refine RG.runG ty_ok 0 400 rfl ?_)))
  refine RG.callS rfl rfl rfl rfl rfl (d_nums [(((c.tables.map encTab).length : Nat) : Int)] (by simp)) rfl rfl ?_
  refine RG.runG ty_ok 0 400 rfl ?_; (repeat (first | with_reducible refine AW.seq ?_ | with_reducible refine AW.skip ?_ | with_reducible refine AW.block ?_ | ((with_reducible refine RG.id ?_); refine RG.nil ⟨?_, ?_⟩; · kernel_rfl) | ((with_reducible refine RG.id ?_); refine RG.nil ?_) | ((with_reducible refine AW.text ?_); refine RG.runG ty_ok 0 400 rfl ?_) | ((with_reducible refine AW.draws mixed_ok ?_); refine RG.runG ty_ok 0 400 rfl ?_)))
  refine RG.opS rfl (op_cat rfl rfl rfl (by have := tx3_len c; simp only [numsI_len, List.length_cons, List.length_nil]; omega)) rfl ?_
  refine RG.runG ty_ok 0 400 rfl ?_; (repeat (first | with_reducible refine AW.seq ?_ | with_reducible refine AW.skip ?_ | with_reducible refine AW.block ?_ | ((with_reducible refine RG.id ?_); refine RG.nil ⟨?_, ?_⟩; · kernel_rfl) | ((with_reducible refine RG.id ?_); refine RG.nil ?_) | ((with_reducible refine AW.text ?_); refine RG.runG ty_ok 0 400 rfl ?_) | ((with_reducible refine AW.draws mixed_ok ?_); refine RG.runG ty_ok 0 400 rfl ?_)))
  refine AW.toExit (ι := Unit) (fun _ => [(1, .own 1 1 0), (4, .b (txR c).2), (5, .s (txR c).1)]) (fun _ => [(1, ⟨1, some (.box 31 (cfgC c))⟩)]) (fun _ => True) ?_ ?_
  · refine AW.loopL (ι := Nat) (fun k => [(1, .own 1 1 0), (4, .b (gK tbF ((tx3 c).1 ++ numsI [(c.tables.length : Int)], (tx3 c).2) c.tables k).2), (5, .s (gK tbF ((tx3 c).1 ++ numsI [(c.tables.length : Int)], (tx3 c).2) c.tables k).1), (12, .i .i64 k)]) (fun _ => [(1, ⟨1, some (.box 31 (cfgC c))⟩)]) (fun k => k ≤ c.tables.length) (fun k => c.tables.length - k) 0 (Nat.zero_le _) ⟨.ownIs rfl rfl rfl, Rn.is rfl rfl, .is ?_ rfl, Rn.is rfl rfl, trivial⟩ (by first | exact trivial | (repeat (first | exact trivial | refine ⟨Rn.is rfl rfl, ?_⟩ | refine ⟨Rn.ownIs rfl rfl rfl, ?_⟩ | refine ⟨Rn.rowIs rfl rfl rfl, ?_⟩ | refine ⟨WkB1.row rfl rfl, ?_⟩ | refine ⟨WkB1.same rfl rfl rfl, ?_⟩))) fun k hk => ?_
    · show AV.s ((tx3 c).1 ++ numsI [((c.tables.map encTab).length : Int)]) = AV.s ((tx3 c).1 ++ numsI [(c.tables.length : Int)])
      rw [List.length_map]
    obtain ⟨P, hP⟩ : ∃ P, P = gK tbF ((tx3 c).1 ++ numsI [(c.tables.length : Int)], (tx3 c).2) c.tables k := ⟨_, rfl⟩
    rw [← hP]
    skip; (repeat (first | with_reducible refine AW.seq ?_ | with_reducible refine AW.skip ?_ | with_reducible refine AW.block ?_ | ((with_reducible refine RG.id ?_); refine RG.nil ⟨?_, ?_⟩; · kernel_rfl) | ((with_reducible refine RG.id ?_); refine RG.nil ?_) | ((with_reducible refine AW.text ?_); refine RG.run ty_ok 0 400 rfl ?_) | ((with_reducible refine AW.draws mixed_ok ?_); refine RG.run ty_ok 0 400 rfl ?_)))
    rcases Nat.lt_or_ge k c.tables.length with h | h
    · rw [decide_eq_true (show (k : Int) < ((c.tables.map encTab).length : Int) by rw [List.length_map]; omega)]
      refine RG.runG ty_ok 0 400 rfl ?_; (repeat (first | with_reducible refine AW.seq ?_ | with_reducible refine AW.skip ?_ | with_reducible refine AW.block ?_ | ((with_reducible refine RG.id ?_); refine RG.nil ⟨?_, ?_⟩; · kernel_rfl) | ((with_reducible refine RG.id ?_); refine RG.nil ?_) | ((with_reducible refine AW.text ?_); refine RG.runG ty_ok 0 400 rfl ?_) | ((with_reducible refine AW.draws mixed_ok ?_); refine RG.runG ty_ok 0 400 rfl ?_)))
      refine AW.cond rfl (fun hok => ?_) (fun hok => ?_)
      · have h200 := (hlP (tx3_ok (gK_ok tbF tbF_stuck (p := ((tx3 c).1 ++ numsI [(c.tables.length : Int)], (tx3 c).2)) (hP ▸ hok)))).2.2.2
        obtain ⟨r, hr⟩ : ∃ r, c.tables[k]? = some r := ⟨_, List.getElem?_eq_getElem h⟩
        have hn := gK_next tbF (p := ((tx3 c).1 ++ numsI [(c.tables.length : Int)], (tx3 c).2)) hr
        rw [← hP] at hn
        simp only [tbF, hok, if_pos] at hn
        have hL : P.1.length ≤ 1800000000 := by
          have h0 := tx3_len c
          have := gfold_len tbF tbF_len (c.tables.take k) ((tx3 c).1 ++ numsI [(c.tables.length : Int)], (tx3 c).2)
          rw [hP]
          unfold gK
          simp only [List.length_append, numsI_len, List.length_cons, List.length_nil, List.length_take] at this
          omega
        have hidx : (c.tables.map encTab)[k]? = some (encTab r) := by rw [List.getElem?_map, hr]; rfl
        skip; (repeat (first | with_reducible refine AW.seq ?_ | with_reducible refine AW.skip ?_ | with_reducible refine AW.block ?_ | ((with_reducible refine RG.id ?_); refine RG.nil ⟨?_, ?_⟩; · kernel_rfl) | ((with_reducible refine RG.id ?_); refine RG.nil ?_) | ((with_reducible refine AW.text ?_); refine RG.runG ty_ok 0 400 rfl ?_) | ((with_reducible refine AW.draws mixed_ok ?_); refine RG.runG ty_ok 0 400 rfl ?_)))
        refine RG.opS rfl (op_index rfl (tab_ok ty_ok rfl) rfl (tab_ok ty_ok rfl) rfl rfl hidx rfl) rfl ?_
        refine RG.runG ty_ok 0 400 rfl ?_; (repeat (first | with_reducible refine AW.seq ?_ | with_reducible refine AW.skip ?_ | with_reducible refine AW.block ?_ | ((with_reducible refine RG.id ?_); refine RG.nil ⟨?_, ?_⟩; · kernel_rfl) | ((with_reducible refine RG.id ?_); refine RG.nil ?_) | ((with_reducible refine AW.text ?_); refine RG.runG ty_ok 0 400 rfl ?_) | ((with_reducible refine AW.draws mixed_ok ?_); refine RG.runG ty_ok 0 400 rfl ?_)))
        refine RG.callS rfl rfl rfl rfl rfl (tables_d r) rfl rfl ?_
        refine RG.runG ty_ok 0 400 rfl ?_; (repeat (first | with_reducible refine AW.seq ?_ | with_reducible refine AW.skip ?_ | with_reducible refine AW.block ?_ | ((with_reducible refine RG.id ?_); refine RG.nil ⟨?_, ?_⟩; · kernel_rfl) | ((with_reducible refine RG.id ?_); refine RG.nil ?_) | ((with_reducible refine AW.text ?_); refine RG.runG ty_ok 0 400 rfl ?_) | ((with_reducible refine AW.draws mixed_ok ?_); refine RG.runG ty_ok 0 400 rfl ?_)))
        have hr4 := tabR_len r
        refine RG.opS rfl (op_cat rfl rfl rfl (by omega)) rfl ?_
        refine RG.runG ty_ok 0 400 rfl ?_; (repeat (first | with_reducible refine AW.seq ?_ | with_reducible refine AW.skip ?_ | with_reducible refine AW.block ?_ | ((with_reducible refine RG.id ?_); refine RG.nil ⟨?_, ?_⟩; · kernel_rfl) | ((with_reducible refine RG.id ?_); refine RG.nil ?_) | ((with_reducible refine AW.text ?_); refine RG.runG ty_ok 0 400 rfl ?_) | ((with_reducible refine AW.draws mixed_ok ?_); refine RG.runG ty_ok 0 400 rfl ?_)))
        refine ⟨k + 1, ⟨by omega, by omega⟩, ⟨.ownIs rfl rfl rfl, .is ?_ rfl, .is ?_ rfl, .is (i64_next h (by omega)) rfl, trivial⟩, (by first | exact trivial | (repeat (first | exact trivial | refine ⟨Rn.is rfl rfl, ?_⟩ | refine ⟨Rn.ownIs rfl rfl rfl, ?_⟩ | refine ⟨Rn.rowIs rfl rfl rfl, ?_⟩ | refine ⟨WkB1.row rfl rfl, ?_⟩ | refine ⟨WkB1.same rfl rfl rfl, ?_⟩)))⟩
        · rw [hn]
          rfl
        · rw [hn]
          rfl
      · refine AW.exit ?_
        have e := gK_all tbF tbF_stuck hk (.inr (hP ▸ hok))
        refine ⟨rfl, (), trivial, ⟨.ownIs rfl rfl rfl, .is ?_ rfl, .is ?_ rfl, trivial⟩, (by first | exact trivial | (repeat (first | exact trivial | refine ⟨Rn.is rfl rfl, ?_⟩ | refine ⟨Rn.ownIs rfl rfl rfl, ?_⟩ | refine ⟨Rn.rowIs rfl rfl rfl, ?_⟩ | refine ⟨WkB1.row rfl rfl, ?_⟩ | refine ⟨WkB1.same rfl rfl rfl, ?_⟩)))⟩
        · rw [show txR c = P from e.symm.trans hP.symm]; rfl
        · rw [show txR c = P from e.symm.trans hP.symm]; rfl
    · rw [decide_eq_false (show ¬ (k : Int) < ((c.tables.map encTab).length : Int) by rw [List.length_map]; omega)]
      refine RG.runG ty_ok 0 400 rfl ?_; (repeat (first | with_reducible refine AW.seq ?_ | with_reducible refine AW.skip ?_ | with_reducible refine AW.block ?_ | ((with_reducible refine RG.id ?_); refine RG.nil ⟨?_, ?_⟩; · kernel_rfl) | ((with_reducible refine RG.id ?_); refine RG.nil ?_) | ((with_reducible refine AW.text ?_); refine RG.runG ty_ok 0 400 rfl ?_) | ((with_reducible refine AW.draws mixed_ok ?_); refine RG.runG ty_ok 0 400 rfl ?_)))
      refine AW.condF rfl ?_
      refine AW.exit ?_
      have e := gK_all tbF tbF_stuck (p := ((tx3 c).1 ++ numsI [(c.tables.length : Int)], (tx3 c).2)) hk (.inl (by omega))
      refine ⟨rfl, (), trivial, ⟨.ownIs rfl rfl rfl, .is ?_ rfl, .is ?_ rfl, trivial⟩, (by first | exact trivial | (repeat (first | exact trivial | refine ⟨Rn.is rfl rfl, ?_⟩ | refine ⟨Rn.ownIs rfl rfl rfl, ?_⟩ | refine ⟨Rn.rowIs rfl rfl rfl, ?_⟩ | refine ⟨WkB1.row rfl rfl, ?_⟩ | refine ⟨WkB1.same rfl rfl rfl, ?_⟩)))⟩
      · rw [show txR c = P from e.symm.trans hP.symm]; rfl
      · rw [show txR c = P from e.symm.trans hP.symm]; rfl
  intro _ _
  skip; (repeat (first | with_reducible refine AW.seq ?_ | with_reducible refine AW.skip ?_ | with_reducible refine AW.block ?_ | ((with_reducible refine RG.id ?_); refine RG.nil ⟨?_, ?_⟩; · kernel_rfl) | ((with_reducible refine RG.id ?_); refine RG.nil ?_) | ((with_reducible refine AW.text ?_); refine RG.runG ty_ok 0 400 rfl ?_) | ((with_reducible refine AW.draws mixed_ok ?_); refine RG.runG ty_ok 0 400 rfl ?_)))
  refine AW.ret (retQ2 rfl rfl rfl rfl ?_)
  rfl
end Go.Proofs.Ytpaldbejnbcokaa.Sm
