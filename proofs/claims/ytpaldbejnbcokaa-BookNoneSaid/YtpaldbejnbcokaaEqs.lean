/- Two structs (two pairs) of package api compared: unlike where their words are. -/
import Derived.Test.YtpaldbejnbcokaaSec
import Derived.Test.YtpaldbejnbcokaaLawT
import Derived.Laws.StructEq
namespace Go.Proofs.Ytpaldbejnbcokaa
open Go.RowKit
set_option linter.unusedSimpArgs false
set_option linter.unusedVariables false

theorem i64of_eq (a b : UInt64) : (i64of a = i64of b) = (a = b) := propext ⟨fun e => by
  have h := congrArg IntKind.u64.wrap e
  rw [ofInt_wrap, ofInt_wrap] at h
  exact UInt64.toNat_inj.1 (Int.ofNat.inj h), fun e => by rw [e]⟩
theorem nat_eq (a b : UInt64) : (((a.toNat : Nat) : Int) = ((b.toNat : Nat) : Int)) = (a = b) := propext ⟨fun e => UInt64.toNat_inj.1 (Int.ofNat.inj e), fun e => by rw [e]⟩

set_option maxRecDepth 100000 in
theorem eqIn_Pt (w : World) (d : Nat) (p0 q0 p1 q1 p2 q2 p3 q3 p4 q4 : Int) : (Op.equalIn (d + 2) 88 (.agg #[.int .i64 p0, .int .i64 p1, .int .i64 p2, .int .i64 p3, .int .i64 p4]) (.agg #[.int .i64 q0, .int .i64 q1, .int .i64 q2, .int .i64 q3, .int .i64 q4])).run Try.prog w = .ok (decide (p0 = q0 ∧ p1 = q1 ∧ p2 = q2 ∧ p3 = q3 ∧ p4 = q4)) w := by
  go_simp
  by_cases h0 : p0 = q0
  rotate_left
  · simp [h0]
  by_cases h1 : p1 = q1
  rotate_left
  · simp [h1]
  by_cases h2 : p2 = q2
  rotate_left
  · simp [h2]
  by_cases h3 : p3 = q3
  rotate_left
  · simp [h3]
  by_cases h4 : p4 = q4
  rotate_left
  · simp [h4]
  simp [h0, h1, h2, h3, h4]
set_option maxRecDepth 100000 in
theorem neq_Pt (w : World) (x y : Pt) : (binOp .neq 88 (.agg #[.int .i64 (i64of x.kind), .int .i64 (i64of x.tenant), .int .i64 (i64of x.peer), .int .i64 (i64of x.at_), .int .i64 (i64of x.cost)]) (.agg #[.int .i64 (i64of y.kind), .int .i64 (i64of y.tenant), .int .i64 (i64of y.peer), .int .i64 (i64of y.at_), .int .i64 (i64of y.cost)])).run Try.prog w = .ok (.bool (!decide (x.words = y.words))) w := by
  rw [run_neq_struct, show (10000 : Nat) = 9998 + 2 from rfl, eqIn_Pt]
  rw [Result.andThen_ok]
  simp only [i64of_eq, nat_eq, Pt.words, List.cons.injEq, and_true]
set_option maxRecDepth 100000 in
theorem eqIn_Wy (w : World) (d : Nat) (p0 q0 p1 q1 p2 q2 : Int) : (Op.equalIn (d + 2) 91 (.agg #[.int .i64 p0, .int .i64 p1, .int .i64 p2]) (.agg #[.int .i64 q0, .int .i64 q1, .int .i64 q2])).run Try.prog w = .ok (decide (p0 = q0 ∧ p1 = q1 ∧ p2 = q2)) w := by
  go_simp
  by_cases h0 : p0 = q0
  rotate_left
  · simp [h0]
  by_cases h1 : p1 = q1
  rotate_left
  · simp [h1]
  by_cases h2 : p2 = q2
  rotate_left
  · simp [h2]
  simp [h0, h1, h2]
set_option maxRecDepth 100000 in
theorem neq_Wy (w : World) (x y : Wy) : (binOp .neq 91 (.agg #[.int .i64 (i64of x.fro), .int .i64 (i64of x.to), .int .i64 (i64of x.via)]) (.agg #[.int .i64 (i64of y.fro), .int .i64 (i64of y.to), .int .i64 (i64of y.via)])).run Try.prog w = .ok (.bool (!decide (x.words = y.words))) w := by
  rw [run_neq_struct, show (10000 : Nat) = 9998 + 2 from rfl, eqIn_Wy]
  rw [Result.andThen_ok]
  simp only [i64of_eq, nat_eq, Wy.words, List.cons.injEq, and_true]
set_option maxRecDepth 100000 in
theorem eqIn_Rl (w : World) (d : Nat) (p0 q0 p1 q1 p2 q2 p3 q3 p4 q4 p5 q5 p6 q6 p7 q7 p8 q8 p9 q9 p10 q10 p11 q11 : Int) : (Op.equalIn (d + 5) 112 (.agg #[.int .i64 p0, .int .u64 p1, .int .u64 p2, .int .u64 p3, .int .u64 p4, .int .i64 p5, .int .i64 p6, .int .i64 p7, .int .u64 p8, .int .u64 p9, .int .u64 p10, .int .u64 p11]) (.agg #[.int .i64 q0, .int .u64 q1, .int .u64 q2, .int .u64 q3, .int .u64 q4, .int .i64 q5, .int .i64 q6, .int .i64 q7, .int .u64 q8, .int .u64 q9, .int .u64 q10, .int .u64 q11])).run Try.prog w = .ok (decide (p0 = q0 ∧ p1 = q1 ∧ p2 = q2 ∧ p3 = q3 ∧ p4 = q4 ∧ p5 = q5 ∧ p6 = q6 ∧ p7 = q7 ∧ p8 = q8 ∧ p9 = q9 ∧ p10 = q10 ∧ p11 = q11)) w := by
  go_simp
  by_cases h0 : p0 = q0
  rotate_left
  · simp [h0]
  by_cases h1 : p1 = q1
  rotate_left
  · simp [h1]
  by_cases h2 : p2 = q2
  rotate_left
  · simp [h2]
  by_cases h3 : p3 = q3
  rotate_left
  · simp [h3]
  by_cases h4 : p4 = q4
  rotate_left
  · simp [h4]
  by_cases h5 : p5 = q5
  rotate_left
  · simp [h5]
  by_cases h6 : p6 = q6
  rotate_left
  · simp [h6]
  by_cases h7 : p7 = q7
  rotate_left
  · simp [h7]
  by_cases h8 : p8 = q8
  rotate_left
  · simp [h8]
  by_cases h9 : p9 = q9
  rotate_left
  · simp [h9]
  by_cases h10 : p10 = q10
  rotate_left
  · simp [h10]
  by_cases h11 : p11 = q11
  rotate_left
  · simp [h11]
  simp [h0, h1, h2, h3, h4, h5, h6, h7, h8, h9, h10, h11]
set_option maxRecDepth 100000 in
theorem neq_Rl (w : World) (x y : Rl) : (binOp .neq 112 (.agg #[.int .i64 (i64of x.prio), .int .u64 x.mat.value.hi.toNat, .int .u64 x.mat.value.lo.toNat, .int .u64 x.mat.care.hi.toNat, .int .u64 x.mat.care.lo.toNat, .int .i64 (i64of x.act.kind), .int .i64 (i64of x.act.port), .int .i64 (i64of x.act.table), .int .u64 x.act.set.value.hi.toNat, .int .u64 x.act.set.value.lo.toNat, .int .u64 x.act.set.care.hi.toNat, .int .u64 x.act.set.care.lo.toNat]) (.agg #[.int .i64 (i64of y.prio), .int .u64 y.mat.value.hi.toNat, .int .u64 y.mat.value.lo.toNat, .int .u64 y.mat.care.hi.toNat, .int .u64 y.mat.care.lo.toNat, .int .i64 (i64of y.act.kind), .int .i64 (i64of y.act.port), .int .i64 (i64of y.act.table), .int .u64 y.act.set.value.hi.toNat, .int .u64 y.act.set.value.lo.toNat, .int .u64 y.act.set.care.hi.toNat, .int .u64 y.act.set.care.lo.toNat])).run Try.prog w = .ok (.bool (!decide (x.words = y.words))) w := by
  rw [run_neq_struct, show (10000 : Nat) = 9995 + 5 from rfl, eqIn_Rl]
  rw [Result.andThen_ok]
  simp only [i64of_eq, nat_eq, Rl.words, List.cons.injEq, and_true]
theorem part_int (w : World) (xs : Array Value) (o : Nat) (v : Value) (hx : xs[o]? = some v) : (part 3 xs o).run Try.prog w = .ok v w := by
  unfold part
  simp only [Sem.run_bind, Sem.run_ite, Try.isAgg3, Result.andThen_ok, Bool.false_eq_true, if_false, hx, Sem.run_pure]
theorem eqIn_Pr (w : World) (d : Nat) (p0 q0 p1 q1 : Int) : (Op.equalIn (d + 2) 89 (.agg #[.int .i64 p0, .int .i64 p1]) (.agg #[.int .i64 q0, .int .i64 q1])).run Try.prog w = .ok (decide (p0 = q0 ∧ p1 = q1)) w := by
  have hE : ∀ a b : Int, (Op.equalIn (d + 1) 3 (.int .i64 a) (.int .i64 b)).run Try.prog w = .ok (a == b) w := fun a b => run_equalIn_int w d 3 .i64 .i64 a b Try.underlying3
  rw [show d + 2 = (d + 1) + 1 from rfl]
  generalize hg : d + 1 = e
  rw [hg] at hE
  clear hg
  rw [Op.equalIn]
  have hp0 : (part 3 #[.int .i64 p0, .int .i64 p1] 0).run Try.prog w = .ok (.int .i64 p0) w := part_int w _ _ _ rfl
  have hp1 : (part 3 #[.int .i64 p0, .int .i64 p1] 1).run Try.prog w = .ok (.int .i64 p1) w := part_int w _ _ _ rfl
  have hq0 : (part 3 #[.int .i64 q0, .int .i64 q1] 0).run Try.prog w = .ok (.int .i64 q0) w := part_int w _ _ _ rfl
  have hq1 : (part 3 #[.int .i64 q0, .int .i64 q1] 1).run Try.prog w = .ok (.int .i64 q1) w := part_int w _ _ _ rfl
  simp only [Sem.run_bind, run_underlying Try.underlying89, Result.andThen_ok, Try.sizeOf3, Std.Legacy.Range.forIn_eq_forIn_range', Std.Legacy.Range.size, List.range', List.forIn_cons, List.forIn_nil, Nat.zero_mul, Nat.zero_add, Nat.one_mul, hp0, hp1, hq0, hq1, hE, Sem.run_ite, Sem.run_pure]
  by_cases h0 : p0 = q0
  · by_cases h1 : p1 = q1
    · subst h0 h1
      simp [hp1, hE]
    · subst h0
      simp [hp1, hq1, hE, h1]
  · simp [h0]
theorem neq_Pr (w : World) (x y : Pr) : (binOp .neq 89 (.agg #[.int .i64 (i64of x.a), .int .i64 (i64of x.b)]) (.agg #[.int .i64 (i64of y.a), .int .i64 (i64of y.b)])).run Try.prog w = .ok (.bool (!decide (x.words = y.words))) w := by
  rw [run_neq_struct, show (10000 : Nat) = 9998 + 2 from rfl, eqIn_Pr]
  rw [Result.andThen_ok]
  simp only [i64of_eq, nat_eq, Pr.words, List.cons.injEq, and_true]
theorem words_Pt {x y : Pt} : x.words = y.words ↔ x = y := by
  obtain ⟨⟩ := x
  obtain ⟨⟩ := y
  simp [Pt.words]
theorem words_Wy {x y : Wy} : x.words = y.words ↔ x = y := by
  obtain ⟨⟩ := x
  obtain ⟨⟩ := y
  simp [Wy.words]
theorem words_Pr {x y : Pr} : x.words = y.words ↔ x = y := by
  obtain ⟨⟩ := x
  obtain ⟨⟩ := y
  simp [Pr.words]
theorem words_Rl {x y : Rl} : x.words = y.words ↔ x = y := by
  obtain ⟨a, ⟨⟨_, _⟩, ⟨_, _⟩⟩, ⟨b, c, d, ⟨⟨_, _⟩, ⟨_, _⟩⟩⟩⟩ := x
  obtain ⟨a', ⟨⟨_, _⟩, ⟨_, _⟩⟩, ⟨b', c', d', ⟨⟨_, _⟩, ⟨_, _⟩⟩⟩⟩ := y
  simp [Rl.words, and_assoc]
/-- What a comparison hands back. -/
def SameOut (w w' : World) (p : Prop) (e : Ending) : Prop := ∃ b : Bool, e = .returned (.bool b) ∧ (b = true ↔ p) ∧ Kp No w w'
theorem same_step {α : Type} {l m : List α} {k : Nat} {x y : α} (h : ∀ i < k, l[i]? = m[i]?) (hx : l[k]? = some x) (hy : m[k]? = some y) (e : x = y) : ∀ i < k + 1, l[i]? = m[i]? := by
  intro i hi
  by_cases hk : i = k
  · rw [hk, hx, hy, e]
  · exact h i (by omega)
theorem same_all {α : Type} {l m : List α} {k : Nat} (h : ∀ i < k, l[i]? = m[i]?) (hl : l.length ≤ k) (hm : m.length ≤ k) : l = m := by
  apply List.ext_getElem?
  intro i
  by_cases hi : i < k
  · exact h i hi
  · rw [List.getElem?_eq_none (by omega), List.getElem?_eq_none (by omega)]
theorem diff_at {α : Type} {l m : List α} {k : Nat} {x y : α} (hx : l[k]? = some x) (hy : m[k]? = some y) (e : ¬ x = y) : ¬ l = m := by
  intro h
  rw [h, hy] at hx
  exact e (Option.some.inj hx).symm
theorem diff_len {α : Type} {l m : List α} (e : ¬ l.length = m.length) : ¬ l = m := fun h => e (by rw [h])

end Go.Proofs.Ytpaldbejnbcokaa
