/- law21's nums and tables as data: what they say of any lists. -/
import Derived.Test.YtpaldbejnbcokaaWp
namespace Go.Proofs.Ytpaldbejnbcokaa.Sm
open Go.RowKit
set_option linter.unusedVariables false
set_option maxRecDepth 100000
set_option maxHeartbeats 1000000
theorem d_Big (n : UInt64) : PDoes Try.prog 37 [.u n, .i .i64 8] (.s (putF n 8)) :=
  .mk2 ⟨_, _, Try.func37, rfl, by kernel_rfl⟩ fun W F v u hv hu hF => by
    obtain rfl := val_eq' rfl hv
    obtain rfl := val_eq' rfl hu
    refine (ref_Big W n 8 (by omega)).mono ?_
    rintro e W' ⟨rfl, hk⟩
    exact ⟨_, rfl, hk, .s _⟩
theorem d_cube (x : Cb) : PDoes Try.prog 46 [.agg [.u x.value.hi, .u x.value.lo, .u x.care.hi, .u x.care.lo]] (.s (enc8 x.words)) :=
  .mk1 ⟨_, _, Try.func46, rfl, by kernel_rfl⟩ fun W F v hv hF => by
    obtain ⟨vs, rfl, hl, hp⟩ := hv.agg_inv
    match vs, hl with
    | [a, b, c, d], _ =>
      obtain rfl := val_eq' rfl (hp 0 _ _ rfl rfl)
      obtain rfl := val_eq' rfl (hp 1 _ _ rfl rfl)
      obtain rfl := val_eq' rfl (hp 2 _ _ rfl rfl)
      obtain rfl := val_eq' rfl (hp 3 _ _ rfl rfl)
      refine (lw_cube W x).mono ?_
      rintro e W' ⟨rfl, hk⟩
      exact ⟨_, rfl, hk, .s _⟩
def encI (n : Int) : List AV := [.i .i64 n]
def numsI (ns : List Int) : List UInt8 := enc8 (ns.map ofI64)
theorem numsI_snoc (ns : List Int) (n : Int) : numsI (ns ++ [n]) = numsI ns ++ putF (ofI64 n) 8 := by simp only [numsI, List.map_append, enc8_append, List.map_cons, List.map_nil, enc8_cons, enc8_nil, List.append_nil]
theorem numsI_len (ns : List Int) : (numsI ns).length = 8 * ns.length := by rw [numsI, enc8_len, List.length_map]
theorem d_nums (ns : List Int) (hb : ns.length ≤ 1000000000) : PDoes Try.prog 20 [.sl (ns.map encI)] (.s (numsI ns)) := by
  refine PDoes.of_bodyN Try.func20 rfl (by kernel_rfl) rfl rfl ?_
  skip; (repeat (first | with_reducible refine AW.seq ?_ | with_reducible refine AW.skip ?_ | with_reducible refine AW.block ?_ | ((with_reducible refine RG.id ?_); refine RG.nil ⟨?_, ?_⟩; · kernel_rfl) | ((with_reducible refine RG.id ?_); refine RG.nil ?_) | ((with_reducible refine AW.text ?_); refine RG.runG ty_ok 0 400 rfl ?_) | ((with_reducible refine AW.draws mixed_ok ?_); refine RG.runG ty_ok 0 400 rfl ?_)))
  refine AW.loopL (ι := Nat) (fun k => [(0, .sl (ns.map encI)), (3, .s (numsI (ns.take k))), (4, .i .i64 k)]) (fun _ => []) (fun k => k ≤ ns.length) (fun k => ns.length - k) 0 (Nat.zero_le _) (by first | exact trivial | (repeat (first | exact trivial | refine ⟨Rn.is rfl rfl, ?_⟩ | refine ⟨Rn.ownIs rfl rfl rfl, ?_⟩ | refine ⟨Rn.rowIs rfl rfl rfl, ?_⟩ | refine ⟨WkB1.row rfl rfl, ?_⟩ | refine ⟨WkB1.same rfl rfl rfl, ?_⟩))) (by first | exact trivial | (repeat (first | exact trivial | refine ⟨Rn.is rfl rfl, ?_⟩ | refine ⟨Rn.ownIs rfl rfl rfl, ?_⟩ | refine ⟨Rn.rowIs rfl rfl rfl, ?_⟩ | refine ⟨WkB1.row rfl rfl, ?_⟩ | refine ⟨WkB1.same rfl rfl rfl, ?_⟩))) fun k hk => ?_
  skip; (repeat (first | with_reducible refine AW.seq ?_ | with_reducible refine AW.skip ?_ | with_reducible refine AW.block ?_ | ((with_reducible refine RG.id ?_); refine RG.nil ⟨?_, ?_⟩; · kernel_rfl) | ((with_reducible refine RG.id ?_); refine RG.nil ?_) | ((with_reducible refine AW.text ?_); refine RG.runG ty_ok 0 400 rfl ?_) | ((with_reducible refine AW.draws mixed_ok ?_); refine RG.runG ty_ok 0 400 rfl ?_)))
  refine AW.cond rfl (fun h => ?_) (fun h => ?_)
  · skip
    skip; (repeat (first | with_reducible refine AW.seq ?_ | with_reducible refine AW.skip ?_ | with_reducible refine AW.block ?_ | ((with_reducible refine RG.id ?_); refine RG.nil ⟨?_, ?_⟩; · kernel_rfl) | ((with_reducible refine RG.id ?_); refine RG.nil ?_) | ((with_reducible refine AW.text ?_); refine RG.runG ty_ok 0 400 rfl ?_) | ((with_reducible refine AW.draws mixed_ok ?_); refine RG.runG ty_ok 0 400 rfl ?_)))
    have h : k < ns.length := by simpa using h
    refine RG.opS rfl (op_index rfl (tab_ok ty_ok rfl) rfl (tab_ok ty_ok rfl) rfl rfl (show (ns.map encI)[k]? = some (encI ns[k]) by simp [h]) rfl) rfl ?_
    refine RG.runG ty_ok 0 400 rfl ?_; (repeat (first | with_reducible refine AW.seq ?_ | with_reducible refine AW.skip ?_ | with_reducible refine AW.block ?_ | ((with_reducible refine RG.id ?_); refine RG.nil ⟨?_, ?_⟩; · kernel_rfl) | ((with_reducible refine RG.id ?_); refine RG.nil ?_) | ((with_reducible refine AW.text ?_); refine RG.runG ty_ok 0 400 rfl ?_) | ((with_reducible refine AW.draws mixed_ok ?_); refine RG.runG ty_ok 0 400 rfl ?_)))
    refine RG.callS rfl rfl rfl rfl rfl (d_Big _) rfl rfl ?_
    refine RG.runG ty_ok 0 400 rfl ?_; (repeat (first | with_reducible refine AW.seq ?_ | with_reducible refine AW.skip ?_ | with_reducible refine AW.block ?_ | ((with_reducible refine RG.id ?_); refine RG.nil ⟨?_, ?_⟩; · kernel_rfl) | ((with_reducible refine RG.id ?_); refine RG.nil ?_) | ((with_reducible refine AW.text ?_); refine RG.runG ty_ok 0 400 rfl ?_) | ((with_reducible refine AW.draws mixed_ok ?_); refine RG.runG ty_ok 0 400 rfl ?_)))
    refine RG.opS rfl (op_cat rfl rfl rfl (by rw [numsI_len, List.length_take, putF_len]; omega)) rfl ?_
    refine RG.runG ty_ok 0 400 rfl ?_; (repeat (first | with_reducible refine AW.seq ?_ | with_reducible refine AW.skip ?_ | with_reducible refine AW.block ?_ | ((with_reducible refine RG.id ?_); refine RG.nil ⟨?_, ?_⟩; · kernel_rfl) | ((with_reducible refine RG.id ?_); refine RG.nil ?_) | ((with_reducible refine AW.text ?_); refine RG.runG ty_ok 0 400 rfl ?_) | ((with_reducible refine AW.draws mixed_ok ?_); refine RG.runG ty_ok 0 400 rfl ?_)))
    refine ⟨k + 1, ⟨by omega, by omega⟩, ⟨Rn.is rfl rfl, .is ?_ rfl, .is (i64_next h (by omega)) rfl, trivial⟩, trivial⟩
    show AV.s (numsI (ns.take k) ++ putF (ofI64 ns[k]) 8) = _
    rw [List.take_succ_eq_append_getElem h, numsI_snoc]
  · skip
    skip; (repeat (first | with_reducible refine AW.seq ?_ | with_reducible refine AW.skip ?_ | with_reducible refine AW.block ?_ | ((with_reducible refine RG.id ?_); refine RG.nil ⟨?_, ?_⟩; · kernel_rfl) | ((with_reducible refine RG.id ?_); refine RG.nil ?_) | ((with_reducible refine AW.text ?_); refine RG.runG ty_ok 0 400 rfl ?_) | ((with_reducible refine AW.draws mixed_ok ?_); refine RG.runG ty_ok 0 400 rfl ?_)))
    refine AW.exit ?_
    refine Eq.mpr (if_pos rfl) ?_
    skip; (repeat (first | with_reducible refine AW.seq ?_ | with_reducible refine AW.skip ?_ | with_reducible refine AW.block ?_ | ((with_reducible refine RG.id ?_); refine RG.nil ⟨?_, ?_⟩; · kernel_rfl) | ((with_reducible refine RG.id ?_); refine RG.nil ?_) | ((with_reducible refine AW.text ?_); refine RG.runG ty_ok 0 400 rfl ?_) | ((with_reducible refine AW.draws mixed_ok ?_); refine RG.runG ty_ok 0 400 rfl ?_)))
    have h : ¬ k < ns.length := by simpa using h
    refine AW.ret (retQ1 rfl rfl rfl ?_)
    show AV.s (numsI (ns.take k)) = _
    rw [List.take_of_length_le (by omega)]
def ruleB (x : Rl) : List UInt8 := enc8 x.words
def rowF (p : List UInt8 × Bool) (r : List Rl) : List UInt8 × Bool := if p.2 = true then (p.1 ++ numsI [(r.length : Int)] ++ (if r.length ≤ 200 then r.flatMap ruleB else []), decide (r.length ≤ 200)) else p
def tabR (t : List (List Rl)) : List UInt8 × Bool := t.foldl rowF (numsI [(t.length : Int)], decide (t.length ≤ 200))
theorem ofI64_of (x : UInt64) : ofI64 (i64of x) = x := by
  apply UInt64.toNat_inj.1
  have h1 := (ofI64_nat (i64of x)).trans (ofInt_wrap x)
  omega
theorem ruleB_nums (x : Rl) : ruleB x = numsI [i64of x.prio] ++ enc8 x.mat.words ++ numsI [i64of x.act.kind, i64of x.act.port, i64of x.act.table] ++ enc8 x.act.set.words := by
  simp only [ruleB, Rl.words, Cb.words, numsI, List.map_cons, List.map_nil, ofI64_of, enc8_cons, enc8_nil, List.append_nil, List.append_assoc]
theorem cube_len (x : Cb) : (enc8 x.words).length = 32 := by simp [enc8_len, Cb.words]
theorem rule_len (x : Rl) : (ruleB x).length = 96 := by simp [ruleB, enc8_len, Rl.words]
theorem rules_len : ∀ l : List Rl, (l.flatMap ruleB).length = 96 * l.length
  | [] => rfl
  | x :: l => by rw [List.flatMap_cons, List.length_append, rule_len, rules_len l, List.length_cons]; omega
theorem rowF_len (p : List UInt8 × Bool) (r : List Rl) : (rowF p r).1.length ≤ p.1.length + 19208 := by
  unfold rowF
  split
  · simp only [List.length_append, numsI_len, List.length_cons, List.length_nil]
    split
    · rw [rules_len]; omega
    · simp
  · omega
theorem foldl_len : ∀ (t : List (List Rl)) (p : List UInt8 × Bool), (t.foldl rowF p).1.length ≤ p.1.length + t.length * 19208
  | [], p => by simp
  | r :: t, p => by
    have h1 := foldl_len t (rowF p r)
    have h2 := rowF_len p r
    rw [List.foldl_cons, List.length_cons, Nat.add_mul]
    omega
theorem foldl_stuck : ∀ (t : List (List Rl)) (p : List UInt8 × Bool), p.2 = false → t.foldl rowF p = p
  | [], p, _ => rfl
  | r :: t, p, h => by
    have : rowF p r = p := by unfold rowF; rw [h]; simp
    rw [List.foldl_cons, this, foldl_stuck t p h]
def tabK (t : List (List Rl)) (k : Nat) : List UInt8 × Bool := (t.take k).foldl rowF (numsI [(t.length : Int)], decide (t.length ≤ 200))
theorem tabK_ok {t : List (List Rl)} {k : Nat} (h : (tabK t k).2 = true) : t.length ≤ 200 := by
  by_cases h2 : t.length ≤ 200
  · exact h2
  · unfold tabK at h
    rw [foldl_stuck _ _ (by simpa using h2)] at h
    simpa using h
theorem tabK_next {t : List (List Rl)} {k : Nat} {r : List Rl} (h : t[k]? = some r) : tabK t (k + 1) = rowF (tabK t k) r := by
  unfold tabK
  rw [List.take_add_one, h]
  simp
theorem tabK_len {t : List (List Rl)} {k : Nat} (h : t.length ≤ 200) (hk : k ≤ t.length) : (tabK t k).1.length ≤ 4000000 := by
  have := foldl_len (t.take k) (numsI [(t.length : Int)], decide (t.length ≤ 200))
  unfold tabK
  simp only [numsI_len, List.length_cons, List.length_nil, List.length_take] at this
  omega
theorem tabK_all {t : List (List Rl)} {k : Nat} (hk : k ≤ t.length) (h : k = t.length ∨ (tabK t k).2 = false) : tabK t k = tabR t := by
  rcases h with rfl | h
  · unfold tabK tabR; rw [List.take_length]
  · have e : tabR t = (t.drop k).foldl rowF (tabK t k) := by unfold tabR tabK; rw [← List.foldl_append, List.take_append_drop]
    rw [e, foldl_stuck _ _ h]
theorem tables_d (t : List (List Rl)) : PDoes Try.prog 19 [.sl (t.map encRls)] (.tup [.s (tabR t).1, .b (tabR t).2]) := by
  refine PDoes.of_bodyN Try.func19 rfl (by kernel_rfl) rfl rfl ?_
  skip; (repeat (first | with_reducible refine AW.seq ?_ | with_reducible refine AW.skip ?_ | with_reducible refine AW.block ?_ | ((with_reducible refine RG.id ?_); refine RG.nil ⟨?_, ?_⟩; · kernel_rfl) | ((with_reducible refine RG.id ?_); refine RG.nil ?_) | ((with_reducible refine AW.text ?_); refine RG.runG ty_ok 0 400 rfl ?_) | ((with_reducible refine AW.draws mixed_ok ?_); refine RG.runG ty_ok 0 400 rfl ?_)))
  refine RG.callS rfl rfl rfl rfl rfl (d_nums [(((t.map encRls).length : Nat) : Int)] (by simp)) rfl rfl ?_
  refine RG.runG ty_ok 0 400 rfl ?_; (repeat (first | with_reducible refine AW.seq ?_ | with_reducible refine AW.skip ?_ | with_reducible refine AW.block ?_ | ((with_reducible refine RG.id ?_); refine RG.nil ⟨?_, ?_⟩; · kernel_rfl) | ((with_reducible refine RG.id ?_); refine RG.nil ?_) | ((with_reducible refine AW.text ?_); refine RG.runG ty_ok 0 400 rfl ?_) | ((with_reducible refine AW.draws mixed_ok ?_); refine RG.runG ty_ok 0 400 rfl ?_)))
  refine AW.lens 0 rfl fun hlen => ?_
  rw [List.length_map] at hlen ⊢
  refine AW.loopL (ι := Nat) (fun k => [(0, .sl (t.map encRls)), (4, .s (tabK t k).1), (5, .b (tabK t k).2), (6, .i .i64 k)]) (fun _ => []) (fun k => k ≤ t.length) (fun k => t.length - k) 0 (Nat.zero_le _) ⟨Rn.is rfl rfl, Rn.is rfl rfl, .is ?_ rfl, Rn.is rfl rfl, trivial⟩ (by first | exact trivial | (repeat (first | exact trivial | refine ⟨Rn.is rfl rfl, ?_⟩ | refine ⟨Rn.ownIs rfl rfl rfl, ?_⟩ | refine ⟨Rn.rowIs rfl rfl rfl, ?_⟩ | refine ⟨WkB1.row rfl rfl, ?_⟩ | refine ⟨WkB1.same rfl rfl rfl, ?_⟩))) fun k hk => ?_
  · show AV.b (decide ((t.length : Int) ≤ 200)) = AV.b (decide (t.length ≤ 200))
    congr 1
    exact decide_eq_decide.2 (by omega)
  skip; (repeat (first | with_reducible refine AW.seq ?_ | with_reducible refine AW.skip ?_ | with_reducible refine AW.block ?_ | ((with_reducible refine RG.id ?_); refine RG.nil ⟨?_, ?_⟩; · kernel_rfl) | ((with_reducible refine RG.id ?_); refine RG.nil ?_) | ((with_reducible refine AW.text ?_); refine RG.run ty_ok 0 400 rfl ?_) | ((with_reducible refine AW.draws mixed_ok ?_); refine RG.run ty_ok 0 400 rfl ?_)))
  rcases Nat.lt_or_ge k t.length with h | h
  · rw [decide_eq_true (show (k : Int) < ((t.map encRls).length : Int) by rw [List.length_map]; omega)]
    refine RG.runG ty_ok 0 400 rfl ?_; (repeat (first | with_reducible refine AW.seq ?_ | with_reducible refine AW.skip ?_ | with_reducible refine AW.block ?_ | ((with_reducible refine RG.id ?_); refine RG.nil ⟨?_, ?_⟩; · kernel_rfl) | ((with_reducible refine RG.id ?_); refine RG.nil ?_) | ((with_reducible refine AW.text ?_); refine RG.runG ty_ok 0 400 rfl ?_) | ((with_reducible refine AW.draws mixed_ok ?_); refine RG.runG ty_ok 0 400 rfl ?_)))
    refine AW.cond rfl (fun hok => ?_) (fun hok => ?_)
    · have h200 := tabK_ok hok
      obtain ⟨r, hr⟩ : ∃ r, t[k]? = some r := ⟨_, List.getElem?_eq_getElem h⟩
      have hn := tabK_next hr
      have hL := tabK_len h200 hk
      have hidx : (t.map encRls)[k]? = some (encRls r) := by rw [List.getElem?_map, hr]; rfl
      simp only [rowF, hok, if_pos] at hn
      skip; (repeat (first | with_reducible refine AW.seq ?_ | with_reducible refine AW.skip ?_ | with_reducible refine AW.block ?_ | ((with_reducible refine RG.id ?_); refine RG.nil ⟨?_, ?_⟩; · kernel_rfl) | ((with_reducible refine RG.id ?_); refine RG.nil ?_) | ((with_reducible refine AW.text ?_); refine RG.runG ty_ok 0 400 rfl ?_) | ((with_reducible refine AW.draws mixed_ok ?_); refine RG.runG ty_ok 0 400 rfl ?_)))
      refine RG.opS rfl (op_index rfl (tab_ok ty_ok rfl) rfl (tab_ok ty_ok rfl) rfl rfl hidx rfl) rfl ?_
      refine RG.runG ty_ok 0 400 rfl ?_; (repeat (first | with_reducible refine AW.seq ?_ | with_reducible refine AW.skip ?_ | with_reducible refine AW.block ?_ | ((with_reducible refine RG.id ?_); refine RG.nil ⟨?_, ?_⟩; · kernel_rfl) | ((with_reducible refine RG.id ?_); refine RG.nil ?_) | ((with_reducible refine AW.text ?_); refine RG.runG ty_ok 0 400 rfl ?_) | ((with_reducible refine AW.draws mixed_ok ?_); refine RG.runG ty_ok 0 400 rfl ?_)))
      refine RG.callS rfl rfl rfl rfl rfl (d_nums [(((r.map encRl).length : Nat) : Int)] (by simp)) rfl rfl ?_
      refine RG.runG ty_ok 0 400 rfl ?_; (repeat (first | with_reducible refine AW.seq ?_ | with_reducible refine AW.skip ?_ | with_reducible refine AW.block ?_ | ((with_reducible refine RG.id ?_); refine RG.nil ⟨?_, ?_⟩; · kernel_rfl) | ((with_reducible refine RG.id ?_); refine RG.nil ?_) | ((with_reducible refine AW.text ?_); refine RG.runG ty_ok 0 400 rfl ?_) | ((with_reducible refine AW.draws mixed_ok ?_); refine RG.runG ty_ok 0 400 rfl ?_)))
      refine RG.opS rfl (op_cat rfl rfl rfl (by rw [numsI_len, List.length_singleton]; omega)) rfl ?_
      refine RG.runG ty_ok 0 400 rfl ?_; (repeat (first | with_reducible refine AW.seq ?_ | with_reducible refine AW.skip ?_ | with_reducible refine AW.block ?_ | ((with_reducible refine RG.id ?_); refine RG.nil ⟨?_, ?_⟩; · kernel_rfl) | ((with_reducible refine RG.id ?_); refine RG.nil ?_) | ((with_reducible refine AW.text ?_); refine RG.runG ty_ok 0 400 rfl ?_) | ((with_reducible refine AW.draws mixed_ok ?_); refine RG.runG ty_ok 0 400 rfl ?_)))
      refine RG.opS rfl (op_index rfl (tab_ok ty_ok rfl) rfl (tab_ok ty_ok rfl) rfl rfl hidx rfl) rfl ?_
      refine RG.runG ty_ok 0 400 rfl ?_; (repeat (first | with_reducible refine AW.seq ?_ | with_reducible refine AW.skip ?_ | with_reducible refine AW.block ?_ | ((with_reducible refine RG.id ?_); refine RG.nil ⟨?_, ?_⟩; · kernel_rfl) | ((with_reducible refine RG.id ?_); refine RG.nil ?_) | ((with_reducible refine AW.text ?_); refine RG.runG ty_ok 0 400 rfl ?_) | ((with_reducible refine AW.draws mixed_ok ?_); refine RG.runG ty_ok 0 400 rfl ?_)))
      refine AW.loopL (ι := Nat) (fun j => [(0, .sl (t.map encRls)), (4, .s ((tabK t k).1 ++ numsI [(r.length : Int)] ++ (r.take j).flatMap ruleB)), (5, .b (decide (r.length ≤ 200))), (6, .i .i64 k), (7, .i .i64 j)]) (fun _ => []) (fun j => j ≤ r.length ∧ (r.length ≤ 200 ∨ j = 0)) (fun j => r.length - j) 0 ⟨Nat.zero_le _, .inr rfl⟩ ⟨Rn.is rfl rfl, .is ?_ rfl, .is ?_ rfl, Rn.is rfl rfl, Rn.is rfl rfl, trivial⟩ (by first | exact trivial | (repeat (first | exact trivial | refine ⟨Rn.is rfl rfl, ?_⟩ | refine ⟨Rn.ownIs rfl rfl rfl, ?_⟩ | refine ⟨Rn.rowIs rfl rfl rfl, ?_⟩ | refine ⟨WkB1.row rfl rfl, ?_⟩ | refine ⟨WkB1.same rfl rfl rfl, ?_⟩))) fun j ⟨hj, hj0⟩ => ?_
      · show AV.s ((tabK t k).1 ++ numsI [((r.map encRl).length : Int)]) = _
        simp
      · show AV.b (decide (((r.map encRl).length : Int) ≤ 200)) = _
        rw [List.length_map]
        congr 1
        exact decide_eq_decide.2 (by omega)
      skip; (repeat (first | with_reducible refine AW.seq ?_ | with_reducible refine AW.skip ?_ | with_reducible refine AW.block ?_ | ((with_reducible refine RG.id ?_); refine RG.nil ⟨?_, ?_⟩; · kernel_rfl) | ((with_reducible refine RG.id ?_); refine RG.nil ?_) | ((with_reducible refine AW.text ?_); refine RG.run ty_ok 0 400 rfl ?_) | ((with_reducible refine AW.draws mixed_ok ?_); refine RG.run ty_ok 0 400 rfl ?_)))
      refine RG.opS rfl (op_index rfl (tab_ok ty_ok rfl) rfl (tab_ok ty_ok rfl) rfl rfl hidx rfl) rfl ?_
      refine RG.run ty_ok 0 400 rfl ?_; (repeat (first | with_reducible refine AW.seq ?_ | with_reducible refine AW.skip ?_ | with_reducible refine AW.block ?_ | ((with_reducible refine RG.id ?_); refine RG.nil ⟨?_, ?_⟩; · kernel_rfl) | ((with_reducible refine RG.id ?_); refine RG.nil ?_) | ((with_reducible refine AW.text ?_); refine RG.run ty_ok 0 400 rfl ?_) | ((with_reducible refine AW.draws mixed_ok ?_); refine RG.run ty_ok 0 400 rfl ?_)))
      rcases Nat.lt_or_ge j r.length with hj' | hj'
      · rw [decide_eq_true (show (j : Int) < ((r.map encRl).length : Int) by rw [List.length_map]; omega)]
        refine RG.runG ty_ok 0 400 rfl ?_; (repeat (first | with_reducible refine AW.seq ?_ | with_reducible refine AW.skip ?_ | with_reducible refine AW.block ?_ | ((with_reducible refine RG.id ?_); refine RG.nil ⟨?_, ?_⟩; · kernel_rfl) | ((with_reducible refine RG.id ?_); refine RG.nil ?_) | ((with_reducible refine AW.text ?_); refine RG.runG ty_ok 0 400 rfl ?_) | ((with_reducible refine AW.draws mixed_ok ?_); refine RG.runG ty_ok 0 400 rfl ?_)))
        refine AW.cond rfl (fun h2 => ?_) (fun h2 => ?_)
        · have h2 : r.length ≤ 200 := by simpa using h2
          obtain ⟨x, hx⟩ : ∃ x, r[j]? = some x := ⟨_, List.getElem?_eq_getElem hj'⟩
          have hidx2 : (r.map encRl)[j]? = some (encRl x) := by rw [List.getElem?_map, hx]; rfl
          skip; (repeat (first | with_reducible refine AW.seq ?_ | with_reducible refine AW.skip ?_ | with_reducible refine AW.block ?_ | ((with_reducible refine RG.id ?_); refine RG.nil ⟨?_, ?_⟩; · kernel_rfl) | ((with_reducible refine RG.id ?_); refine RG.nil ?_) | ((with_reducible refine AW.text ?_); refine RG.runG ty_ok 0 400 rfl ?_) | ((with_reducible refine AW.draws mixed_ok ?_); refine RG.runG ty_ok 0 400 rfl ?_)))
          refine RG.opS rfl (op_index rfl (tab_ok ty_ok rfl) rfl (tab_ok ty_ok rfl) rfl rfl hidx rfl) rfl ?_
          refine RG.runG ty_ok 0 400 rfl ?_; (repeat (first | with_reducible refine AW.seq ?_ | with_reducible refine AW.skip ?_ | with_reducible refine AW.block ?_ | ((with_reducible refine RG.id ?_); refine RG.nil ⟨?_, ?_⟩; · kernel_rfl) | ((with_reducible refine RG.id ?_); refine RG.nil ?_) | ((with_reducible refine AW.text ?_); refine RG.runG ty_ok 0 400 rfl ?_) | ((with_reducible refine AW.draws mixed_ok ?_); refine RG.runG ty_ok 0 400 rfl ?_)))
          refine RG.opS rfl (op_index rfl (tab_ok ty_ok rfl) rfl (tab_ok ty_ok rfl) rfl rfl hidx2 rfl) rfl ?_
          refine RG.runG ty_ok 0 400 rfl ?_; (repeat (first | with_reducible refine AW.seq ?_ | with_reducible refine AW.skip ?_ | with_reducible refine AW.block ?_ | ((with_reducible refine RG.id ?_); refine RG.nil ⟨?_, ?_⟩; · kernel_rfl) | ((with_reducible refine RG.id ?_); refine RG.nil ?_) | ((with_reducible refine AW.text ?_); refine RG.runG ty_ok 0 400 rfl ?_) | ((with_reducible refine AW.draws mixed_ok ?_); refine RG.runG ty_ok 0 400 rfl ?_)))
          refine RG.callS rfl rfl rfl rfl rfl (d_nums [i64of x.prio] (by simp)) rfl rfl ?_
          refine RG.runG ty_ok 0 400 rfl ?_; (repeat (first | with_reducible refine AW.seq ?_ | with_reducible refine AW.skip ?_ | with_reducible refine AW.block ?_ | ((with_reducible refine RG.id ?_); refine RG.nil ⟨?_, ?_⟩; · kernel_rfl) | ((with_reducible refine RG.id ?_); refine RG.nil ?_) | ((with_reducible refine AW.text ?_); refine RG.runG ty_ok 0 400 rfl ?_) | ((with_reducible refine AW.draws mixed_ok ?_); refine RG.runG ty_ok 0 400 rfl ?_)))
          refine RG.callS rfl rfl rfl rfl rfl (d_cube x.mat) rfl rfl ?_
          refine RG.runG ty_ok 0 400 rfl ?_; (repeat (first | with_reducible refine AW.seq ?_ | with_reducible refine AW.skip ?_ | with_reducible refine AW.block ?_ | ((with_reducible refine RG.id ?_); refine RG.nil ⟨?_, ?_⟩; · kernel_rfl) | ((with_reducible refine RG.id ?_); refine RG.nil ?_) | ((with_reducible refine AW.text ?_); refine RG.runG ty_ok 0 400 rfl ?_) | ((with_reducible refine AW.draws mixed_ok ?_); refine RG.runG ty_ok 0 400 rfl ?_)))
          refine RG.opS rfl (op_cat rfl rfl rfl (by simp only [numsI_len, cube_len, List.length_cons, List.length_nil]; omega)) rfl ?_
          refine RG.runG ty_ok 0 400 rfl ?_; (repeat (first | with_reducible refine AW.seq ?_ | with_reducible refine AW.skip ?_ | with_reducible refine AW.block ?_ | ((with_reducible refine RG.id ?_); refine RG.nil ⟨?_, ?_⟩; · kernel_rfl) | ((with_reducible refine RG.id ?_); refine RG.nil ?_) | ((with_reducible refine AW.text ?_); refine RG.runG ty_ok 0 400 rfl ?_) | ((with_reducible refine AW.draws mixed_ok ?_); refine RG.runG ty_ok 0 400 rfl ?_)))
          refine RG.callS rfl rfl rfl rfl rfl (d_nums [i64of x.act.kind, i64of x.act.port, i64of x.act.table] (by simp)) rfl rfl ?_
          refine RG.runG ty_ok 0 400 rfl ?_; (repeat (first | with_reducible refine AW.seq ?_ | with_reducible refine AW.skip ?_ | with_reducible refine AW.block ?_ | ((with_reducible refine RG.id ?_); refine RG.nil ⟨?_, ?_⟩; · kernel_rfl) | ((with_reducible refine RG.id ?_); refine RG.nil ?_) | ((with_reducible refine AW.text ?_); refine RG.runG ty_ok 0 400 rfl ?_) | ((with_reducible refine AW.draws mixed_ok ?_); refine RG.runG ty_ok 0 400 rfl ?_)))
          refine RG.opS rfl (op_cat rfl rfl rfl (by simp only [numsI_len, cube_len, List.length_cons, List.length_nil, List.length_append]; omega)) rfl ?_
          refine RG.runG ty_ok 0 400 rfl ?_; (repeat (first | with_reducible refine AW.seq ?_ | with_reducible refine AW.skip ?_ | with_reducible refine AW.block ?_ | ((with_reducible refine RG.id ?_); refine RG.nil ⟨?_, ?_⟩; · kernel_rfl) | ((with_reducible refine RG.id ?_); refine RG.nil ?_) | ((with_reducible refine AW.text ?_); refine RG.runG ty_ok 0 400 rfl ?_) | ((with_reducible refine AW.draws mixed_ok ?_); refine RG.runG ty_ok 0 400 rfl ?_)))
          refine RG.callS rfl rfl rfl rfl rfl (d_cube x.act.set) rfl rfl ?_
          refine RG.runG ty_ok 0 400 rfl ?_; (repeat (first | with_reducible refine AW.seq ?_ | with_reducible refine AW.skip ?_ | with_reducible refine AW.block ?_ | ((with_reducible refine RG.id ?_); refine RG.nil ⟨?_, ?_⟩; · kernel_rfl) | ((with_reducible refine RG.id ?_); refine RG.nil ?_) | ((with_reducible refine AW.text ?_); refine RG.runG ty_ok 0 400 rfl ?_) | ((with_reducible refine AW.draws mixed_ok ?_); refine RG.runG ty_ok 0 400 rfl ?_)))
          refine RG.opS rfl (op_cat rfl rfl rfl (by simp only [numsI_len, cube_len, List.length_cons, List.length_nil, List.length_append]; omega)) rfl ?_
          refine RG.runG ty_ok 0 400 rfl ?_; (repeat (first | with_reducible refine AW.seq ?_ | with_reducible refine AW.skip ?_ | with_reducible refine AW.block ?_ | ((with_reducible refine RG.id ?_); refine RG.nil ⟨?_, ?_⟩; · kernel_rfl) | ((with_reducible refine RG.id ?_); refine RG.nil ?_) | ((with_reducible refine AW.text ?_); refine RG.runG ty_ok 0 400 rfl ?_) | ((with_reducible refine AW.draws mixed_ok ?_); refine RG.runG ty_ok 0 400 rfl ?_)))
          refine RG.opS rfl (op_cat rfl rfl rfl (by simp only [numsI_len, cube_len, List.length_cons, List.length_nil, List.length_append, rules_len, List.length_take]; omega)) rfl ?_
          refine RG.runG ty_ok 0 400 rfl ?_; (repeat (first | with_reducible refine AW.seq ?_ | with_reducible refine AW.skip ?_ | with_reducible refine AW.block ?_ | ((with_reducible refine RG.id ?_); refine RG.nil ⟨?_, ?_⟩; · kernel_rfl) | ((with_reducible refine RG.id ?_); refine RG.nil ?_) | ((with_reducible refine AW.text ?_); refine RG.runG ty_ok 0 400 rfl ?_) | ((with_reducible refine AW.draws mixed_ok ?_); refine RG.runG ty_ok 0 400 rfl ?_)))
          refine ⟨j + 1, ⟨⟨by omega, .inl h2⟩, by omega⟩, ⟨Rn.is rfl rfl, .is ?_ rfl, Rn.is rfl rfl, Rn.is rfl rfl, .is (i64_next hj' (by omega)) rfl, trivial⟩, trivial⟩
          show AV.s ((tabK t k).1 ++ numsI [(r.length : Int)] ++ (r.take j).flatMap ruleB ++ (numsI [i64of x.prio] ++ enc8 x.mat.words ++ numsI [i64of x.act.kind, i64of x.act.port, i64of x.act.table] ++ enc8 x.act.set.words)) = _
          rw [List.take_add_one, hx, List.flatMap_append, ← List.append_assoc ((tabK t k).1 ++ numsI [(r.length : Int)])]
          simp only [Option.toList_some, List.flatMap_cons, List.flatMap_nil, List.append_nil, ruleB_nums]
        · refine AW.exit ?_
          refine Eq.mpr (if_pos rfl) ?_
          skip; (repeat (first | with_reducible refine AW.seq ?_ | with_reducible refine AW.skip ?_ | with_reducible refine AW.block ?_ | ((with_reducible refine RG.id ?_); refine RG.nil ⟨?_, ?_⟩; · kernel_rfl) | ((with_reducible refine RG.id ?_); refine RG.nil ?_) | ((with_reducible refine AW.text ?_); refine RG.runG ty_ok 0 400 rfl ?_) | ((with_reducible refine AW.draws mixed_ok ?_); refine RG.runG ty_ok 0 400 rfl ?_)))
          have h2 : ¬ r.length ≤ 200 := by simpa using h2
          refine ⟨k + 1, ⟨by omega, by omega⟩, ⟨Rn.is rfl rfl, .is ?_ rfl, .is ?_ rfl, .is (i64_next h (by omega)) rfl, trivial⟩, trivial⟩
          · rw [hn, if_neg h2, hj0.resolve_left h2]
            rfl
          · rw [hn]
            rfl
      · rw [decide_eq_false (show ¬ (j : Int) < ((r.map encRl).length : Int) by rw [List.length_map]; omega)]
        refine RG.runG ty_ok 0 400 rfl ?_; (repeat (first | with_reducible refine AW.seq ?_ | with_reducible refine AW.skip ?_ | with_reducible refine AW.block ?_ | ((with_reducible refine RG.id ?_); refine RG.nil ⟨?_, ?_⟩; · kernel_rfl) | ((with_reducible refine RG.id ?_); refine RG.nil ?_) | ((with_reducible refine AW.text ?_); refine RG.runG ty_ok 0 400 rfl ?_) | ((with_reducible refine AW.draws mixed_ok ?_); refine RG.runG ty_ok 0 400 rfl ?_)))
        refine AW.condF rfl ?_
        refine AW.exit ?_
        refine Eq.mpr (if_pos rfl) ?_
        skip; (repeat (first | with_reducible refine AW.seq ?_ | with_reducible refine AW.skip ?_ | with_reducible refine AW.block ?_ | ((with_reducible refine RG.id ?_); refine RG.nil ⟨?_, ?_⟩; · kernel_rfl) | ((with_reducible refine RG.id ?_); refine RG.nil ?_) | ((with_reducible refine AW.text ?_); refine RG.runG ty_ok 0 400 rfl ?_) | ((with_reducible refine AW.draws mixed_ok ?_); refine RG.runG ty_ok 0 400 rfl ?_)))
        have h2 : r.length ≤ 200 := by omega
        refine ⟨k + 1, ⟨by omega, by omega⟩, ⟨Rn.is rfl rfl, .is ?_ rfl, .is ?_ rfl, .is (i64_next h (by omega)) rfl, trivial⟩, trivial⟩
        · rw [hn, if_pos h2]
          show AV.s ((tabK t k).1 ++ numsI [(r.length : Int)] ++ (r.take j).flatMap ruleB) = _
          rw [List.take_of_length_le hj']
        · rw [hn]
          rfl
    · refine AW.exit ?_
      refine Eq.mpr (if_pos rfl) ?_
      skip; (repeat (first | with_reducible refine AW.seq ?_ | with_reducible refine AW.skip ?_ | with_reducible refine AW.block ?_ | ((with_reducible refine RG.id ?_); refine RG.nil ⟨?_, ?_⟩; · kernel_rfl) | ((with_reducible refine RG.id ?_); refine RG.nil ?_) | ((with_reducible refine AW.text ?_); refine RG.runG ty_ok 0 400 rfl ?_) | ((with_reducible refine AW.draws mixed_ok ?_); refine RG.runG ty_ok 0 400 rfl ?_)))
      refine AW.ret (retQ2 rfl rfl rfl rfl ?_)
      show AV.tup [.s (tabK t k).1, .b (tabK t k).2] = _
      rw [tabK_all hk (.inr hok)]
  · rw [decide_eq_false (show ¬ (k : Int) < ((t.map encRls).length : Int) by rw [List.length_map]; omega)]
    refine RG.runG ty_ok 0 400 rfl ?_; (repeat (first | with_reducible refine AW.seq ?_ | with_reducible refine AW.skip ?_ | with_reducible refine AW.block ?_ | ((with_reducible refine RG.id ?_); refine RG.nil ⟨?_, ?_⟩; · kernel_rfl) | ((with_reducible refine RG.id ?_); refine RG.nil ?_) | ((with_reducible refine AW.text ?_); refine RG.runG ty_ok 0 400 rfl ?_) | ((with_reducible refine AW.draws mixed_ok ?_); refine RG.runG ty_ok 0 400 rfl ?_)))
    refine AW.condF rfl ?_
    refine AW.exit ?_
    refine Eq.mpr (if_pos rfl) ?_
    skip; (repeat (first | with_reducible refine AW.seq ?_ | with_reducible refine AW.skip ?_ | with_reducible refine AW.block ?_ | ((with_reducible refine RG.id ?_); refine RG.nil ⟨?_, ?_⟩; · kernel_rfl) | ((with_reducible refine RG.id ?_); refine RG.nil ?_) | ((with_reducible refine AW.text ?_); refine RG.runG ty_ok 0 400 rfl ?_) | ((with_reducible refine AW.draws mixed_ok ?_); refine RG.runG ty_ok 0 400 rfl ?_)))
    refine AW.ret (retQ2 rfl rfl rfl rfl ?_)
    show AV.tup [.s (tabK t k).1, .b (tabK t k).2] = _
    rw [tabK_all hk (.inl (by omega))]
theorem numsI_count (n : Nat) (h : n ≤ 200) : numsI [(n : Int)] = putF (UInt64.ofNat n) 8 := by
  have : ofI64 (n : Int) = UInt64.ofNat n := by rw [← i64of_small h, ofI64_of]
  rw [numsI, List.map_cons, List.map_nil, this, enc8_cons, enc8_nil, List.append_nil]
theorem rules_flat (r : List Rl) : r.flatMap ruleB = enc8 (r.flatMap Rl.words) := by
  induction r with
  | nil => rfl
  | cons x r ih => rw [List.flatMap_cons, List.flatMap_cons, enc8_append, ih]; rfl
theorem fold_fit : ∀ (t : List (List Rl)) (p : List UInt8 × Bool), p.2 = true → t.foldl rowF p = if t.all rulesFit = true then (p.1 ++ enc8 (t.flatMap rulesW), true) else (t.foldl rowF p |>.1, false)
  | [], p, h => by
    obtain ⟨a, b⟩ := p
    subst h
    simp [enc8_nil]
  | r :: t, p, h => by
    have e : rowF p r = (p.1 ++ numsI [(r.length : Int)] ++ (if r.length ≤ 200 then r.flatMap ruleB else []), decide (r.length ≤ 200)) := by unfold rowF; rw [if_pos h]
    by_cases h2 : r.length ≤ 200
    · have ih := fold_fit t (rowF p r) (by rw [e]; simp [h2])
      rw [List.foldl_cons, ih]
      have hr : rulesFit r = true := by simp [rulesFit, fitL, h2, yes]
      rw [List.all_cons, hr, Bool.true_and]
      split
      · rw [e, if_pos h2, List.flatMap_cons, enc8_append, numsI_count _ h2, rules_flat]
        simp only [rulesW, itemsW, enc8_cons, List.append_assoc]
      · rfl
    · have hr : rulesFit r = false := by simp [rulesFit, fitL, h2]
      rw [List.foldl_cons, List.all_cons, hr, foldl_stuck _ _ (by rw [e]; simpa using h2)]
      simp [e, h2]
theorem tabR_fit (t : List (List Rl)) : (tabR t).2 = tablesFit t := by
  unfold tabR tablesFit fitL
  by_cases h : t.length ≤ 200
  · rw [fold_fit _ _ (by simpa using h)]
    cases hq : t.all rulesFit <;> simp [h]
  · rw [foldl_stuck _ _ (by simpa using h)]
    simp [h]
theorem tabR_eq {t : List (List Rl)} (h : tablesFit t = true) : (tabR t).1 = enc8 (tablesW t) := by
  have h1 := h
  simp only [tablesFit, fitL, Bool.and_eq_true, decide_eq_true_eq] at h1
  unfold tabR
  rw [fold_fit _ _ (by simpa using h1.1), if_pos h1.2, numsI_count _ h1.1]
  simp only [tablesW, itemsW, enc8_cons]
theorem tabR_len (t : List (List Rl)) : (tabR t).1.length ≤ 4000000 := by
  by_cases h : t.length ≤ 200
  · rw [← tabK_all (Nat.le_refl _) (.inl rfl)]
    exact tabK_len h (Nat.le_refl _)
  · unfold tabR
    rw [foldl_stuck _ _ (by simpa using h), numsI_len]
    simp
end Go.Proofs.Ytpaldbejnbcokaa.Sm
