/- The law WireApart, walked over abstract values. -/
import Derived.Test.YtpaldbejnbcokaaWp
namespace Go.Proofs.Ytpaldbejnbcokaa.Sm
open Go.RowKit
set_option linter.unusedVariables false
set_option maxRecDepth 100000
set_option maxHeartbeats 2000000
theorem seal_inj {a b : List UInt64} (h : sealW a = sealW b) : enc8 a = enc8 b := (List.append_inj' h (by rw [putF_len, putF_len])).1
theorem seal_cfg {c d : Cfg} (hc : c.fit = true) (hd : d.fit = true) : sealW c.words = sealW d.words ↔ c = d :=
  ⟨fun h => reads_inj (reads_cfg c hc) (reads_cfg d hd) (seal_inj h), fun h => by rw [h]⟩
theorem seal_lt {c d : Lt} (hc : tablesFit c.tables = true) (hd : tablesFit d.tables = true) : sealW c.words = sealW d.words ↔ c = d :=
  ⟨fun h => reads_inj (reads_lt c hc) (reads_lt d hd) (seal_inj h), fun h => by rw [h]⟩
theorem PDoes.any2 {P : Program} {f : FuncId} {args : List AV} {x y : AV} (h : PDoes P f args (.tup [x, y])) : PDoes P f args (.tup [.any, .any]) :=
  ⟨h.fn, fun W F vs hl hv hF => (h.calls W F vs hl hv hF).mono fun e W' ⟨v, h1, h2, h3⟩ => ⟨v, h1, h2, by
    cases h3 with
    | tup _ us hl' hr =>
      match us, hl' with
      | [a, b], _ => exact .tup2 (.any _) (.any _)⟩⟩
theorem d_Config_any (c : Cfg) : PDoes Try.prog 12 [.agg (cfgC c)] (.tup [.any, .any]) := by
  cases h : c.fit
  · exact (d_Config_no c h).any2
  · exact (d_Config_yes c h).any2
theorem d_Letter_any (c : Lt) : PDoes Try.prog 18 [.agg (ltC c)] (.tup [.any, .any]) := by
  cases h : tablesFit c.tables
  · exact (d_Letter_no c h).any2
  · exact (d_Letter_yes c h).any2
theorem op_binE {P : Program} {N : Nat} {o : Oper} {s : St} {op : BinOp} {t yt : Nat} {x y : Operand} {r r' : AV} (ho : o.op = .binOp op t x y yt) (h : binA op (s.ev x) (s.ev y) = some r) (e : r = r') : OpLoc P N o s ⟨r', [], []⟩ := by
  subst e
  exact op_bin ho h
theorem WireApart_d (c d : Cfg) (l m : Lt) : PDoes Try.prog 5 [.agg (cfgC c), .agg (cfgC d), .agg (ltC l), .agg (ltC m)] (.b true) := by
  refine PDoes.of_bodyN Try.func5 rfl (by kernel_rfl) rfl rfl ?_
  skip; (repeat (first | with_reducible refine AW.seq ?_ | with_reducible refine AW.skip ?_ | with_reducible refine AW.block ?_ | ((with_reducible refine RG.id ?_); refine RG.nil ⟨?_, ?_⟩; · kernel_rfl) | ((with_reducible refine RG.id ?_); refine RG.nil ?_) | ((with_reducible refine AW.text ?_); refine RG.runG ty_ok 0 400 rfl ?_) | ((with_reducible refine AW.draws mixed_ok ?_); refine RG.runG ty_ok 0 400 rfl ?_)))
  cases hc : c.fit
  · refine RG.call rfl rfl rfl rfl rfl (d_Config_no c hc) rfl rfl ?_
    refine RG.runG ty_ok 0 400 rfl ?_; (repeat (first | with_reducible refine AW.seq ?_ | with_reducible refine AW.skip ?_ | with_reducible refine AW.block ?_ | ((with_reducible refine RG.id ?_); refine RG.nil ⟨?_, ?_⟩; · kernel_rfl) | ((with_reducible refine RG.id ?_); refine RG.nil ?_) | ((with_reducible refine AW.text ?_); refine RG.runG ty_ok 0 400 rfl ?_) | ((with_reducible refine AW.draws mixed_ok ?_); refine RG.runG ty_ok 0 400 rfl ?_)))
    refine RG.call rfl rfl rfl rfl rfl (d_Config_any d) rfl rfl ?_
    refine RG.runG ty_ok 0 400 rfl ?_; (repeat (first | with_reducible refine AW.seq ?_ | with_reducible refine AW.skip ?_ | with_reducible refine AW.block ?_ | ((with_reducible refine RG.id ?_); refine RG.nil ⟨?_, ?_⟩; · kernel_rfl) | ((with_reducible refine RG.id ?_); refine RG.nil ?_) | ((with_reducible refine AW.text ?_); refine RG.runG ty_ok 0 400 rfl ?_) | ((with_reducible refine AW.draws mixed_ok ?_); refine RG.runG ty_ok 0 400 rfl ?_)))
    refine RG.call rfl rfl rfl rfl rfl (d_Letter_any l) rfl rfl ?_
    refine RG.runG ty_ok 0 400 rfl ?_; (repeat (first | with_reducible refine AW.seq ?_ | with_reducible refine AW.skip ?_ | with_reducible refine AW.block ?_ | ((with_reducible refine RG.id ?_); refine RG.nil ⟨?_, ?_⟩; · kernel_rfl) | ((with_reducible refine RG.id ?_); refine RG.nil ?_) | ((with_reducible refine AW.text ?_); refine RG.runG ty_ok 0 400 rfl ?_) | ((with_reducible refine AW.draws mixed_ok ?_); refine RG.runG ty_ok 0 400 rfl ?_)))
    refine RG.call rfl rfl rfl rfl rfl (d_Letter_any m) rfl rfl ?_
    refine RG.runG ty_ok 0 400 rfl ?_; (repeat (first | with_reducible refine AW.seq ?_ | with_reducible refine AW.skip ?_ | with_reducible refine AW.block ?_ | ((with_reducible refine RG.id ?_); refine RG.nil ⟨?_, ?_⟩; · kernel_rfl) | ((with_reducible refine RG.id ?_); refine RG.nil ?_) | ((with_reducible refine AW.text ?_); refine RG.runG ty_ok 0 400 rfl ?_) | ((with_reducible refine AW.draws mixed_ok ?_); refine RG.runG ty_ok 0 400 rfl ?_)))
    refine RG.call rfl rfl rfl rfl rfl d_awake rfl rfl ?_
    refine RG.runG ty_ok 0 400 rfl ?_; (repeat (first | with_reducible refine AW.seq ?_ | with_reducible refine AW.skip ?_ | with_reducible refine AW.block ?_ | ((with_reducible refine RG.id ?_); refine RG.nil ⟨?_, ?_⟩; · kernel_rfl) | ((with_reducible refine RG.id ?_); refine RG.nil ?_) | ((with_reducible refine AW.text ?_); refine RG.runG ty_ok 0 400 rfl ?_) | ((with_reducible refine AW.draws mixed_ok ?_); refine RG.runG ty_ok 0 400 rfl ?_))); refine AW.condT rfl ?_; skip; (repeat (first | with_reducible refine AW.seq ?_ | with_reducible refine AW.skip ?_ | with_reducible refine AW.block ?_ | ((with_reducible refine RG.id ?_); refine RG.nil ⟨?_, ?_⟩; · kernel_rfl) | ((with_reducible refine RG.id ?_); refine RG.nil ?_) | ((with_reducible refine AW.text ?_); refine RG.runG ty_ok 0 400 rfl ?_) | ((with_reducible refine AW.draws mixed_ok ?_); refine RG.runG ty_ok 0 400 rfl ?_)))
    refine RG.call rfl rfl rfl rfl rfl d_awake rfl rfl ?_
    refine RG.runG ty_ok 0 400 rfl ?_; (repeat (first | with_reducible refine AW.seq ?_ | with_reducible refine AW.skip ?_ | with_reducible refine AW.block ?_ | ((with_reducible refine RG.id ?_); refine RG.nil ⟨?_, ?_⟩; · kernel_rfl) | ((with_reducible refine RG.id ?_); refine RG.nil ?_) | ((with_reducible refine AW.text ?_); refine RG.runG ty_ok 0 400 rfl ?_) | ((with_reducible refine AW.draws mixed_ok ?_); refine RG.runG ty_ok 0 400 rfl ?_))); refine AW.ret (retQB rfl rfl ?_)
    rfl
  refine RG.callM rfl rfl rfl rfl rfl (d_Config_yes c hc) rfl ?_
  refine RG.runG ty_ok 0 400 rfl ?_; (repeat (first | with_reducible refine AW.seq ?_ | with_reducible refine AW.skip ?_ | with_reducible refine AW.block ?_ | ((with_reducible refine RG.id ?_); refine RG.nil ⟨?_, ?_⟩; · kernel_rfl) | ((with_reducible refine RG.id ?_); refine RG.nil ?_) | ((with_reducible refine AW.text ?_); refine RG.runG ty_ok 0 400 rfl ?_) | ((with_reducible refine AW.draws mixed_ok ?_); refine RG.runG ty_ok 0 400 rfl ?_)))
  cases hd : d.fit
  · refine RG.call rfl rfl rfl rfl rfl (d_Config_no d hd) rfl rfl ?_
    refine RG.runG ty_ok 0 400 rfl ?_; (repeat (first | with_reducible refine AW.seq ?_ | with_reducible refine AW.skip ?_ | with_reducible refine AW.block ?_ | ((with_reducible refine RG.id ?_); refine RG.nil ⟨?_, ?_⟩; · kernel_rfl) | ((with_reducible refine RG.id ?_); refine RG.nil ?_) | ((with_reducible refine AW.text ?_); refine RG.runG ty_ok 0 400 rfl ?_) | ((with_reducible refine AW.draws mixed_ok ?_); refine RG.runG ty_ok 0 400 rfl ?_)))
    refine RG.call rfl rfl rfl rfl rfl (d_Letter_any l) rfl rfl ?_
    refine RG.runG ty_ok 0 400 rfl ?_; (repeat (first | with_reducible refine AW.seq ?_ | with_reducible refine AW.skip ?_ | with_reducible refine AW.block ?_ | ((with_reducible refine RG.id ?_); refine RG.nil ⟨?_, ?_⟩; · kernel_rfl) | ((with_reducible refine RG.id ?_); refine RG.nil ?_) | ((with_reducible refine AW.text ?_); refine RG.runG ty_ok 0 400 rfl ?_) | ((with_reducible refine AW.draws mixed_ok ?_); refine RG.runG ty_ok 0 400 rfl ?_)))
    refine RG.call rfl rfl rfl rfl rfl (d_Letter_any m) rfl rfl ?_
    refine RG.runG ty_ok 0 400 rfl ?_; (repeat (first | with_reducible refine AW.seq ?_ | with_reducible refine AW.skip ?_ | with_reducible refine AW.block ?_ | ((with_reducible refine RG.id ?_); refine RG.nil ⟨?_, ?_⟩; · kernel_rfl) | ((with_reducible refine RG.id ?_); refine RG.nil ?_) | ((with_reducible refine AW.text ?_); refine RG.runG ty_ok 0 400 rfl ?_) | ((with_reducible refine AW.draws mixed_ok ?_); refine RG.runG ty_ok 0 400 rfl ?_)))
    refine RG.call rfl rfl rfl rfl rfl d_awake rfl rfl ?_
    refine RG.runG ty_ok 0 400 rfl ?_; (repeat (first | with_reducible refine AW.seq ?_ | with_reducible refine AW.skip ?_ | with_reducible refine AW.block ?_ | ((with_reducible refine RG.id ?_); refine RG.nil ⟨?_, ?_⟩; · kernel_rfl) | ((with_reducible refine RG.id ?_); refine RG.nil ?_) | ((with_reducible refine AW.text ?_); refine RG.runG ty_ok 0 400 rfl ?_) | ((with_reducible refine AW.draws mixed_ok ?_); refine RG.runG ty_ok 0 400 rfl ?_))); refine AW.condT rfl ?_; skip; (repeat (first | with_reducible refine AW.seq ?_ | with_reducible refine AW.skip ?_ | with_reducible refine AW.block ?_ | ((with_reducible refine RG.id ?_); refine RG.nil ⟨?_, ?_⟩; · kernel_rfl) | ((with_reducible refine RG.id ?_); refine RG.nil ?_) | ((with_reducible refine AW.text ?_); refine RG.runG ty_ok 0 400 rfl ?_) | ((with_reducible refine AW.draws mixed_ok ?_); refine RG.runG ty_ok 0 400 rfl ?_)))
    refine RG.call rfl rfl rfl rfl rfl d_awake rfl rfl ?_
    refine RG.runG ty_ok 0 400 rfl ?_; (repeat (first | with_reducible refine AW.seq ?_ | with_reducible refine AW.skip ?_ | with_reducible refine AW.block ?_ | ((with_reducible refine RG.id ?_); refine RG.nil ⟨?_, ?_⟩; · kernel_rfl) | ((with_reducible refine RG.id ?_); refine RG.nil ?_) | ((with_reducible refine AW.text ?_); refine RG.runG ty_ok 0 400 rfl ?_) | ((with_reducible refine AW.draws mixed_ok ?_); refine RG.runG ty_ok 0 400 rfl ?_))); refine AW.ret (retQB rfl rfl ?_)
    rfl
  refine RG.callM rfl rfl rfl rfl rfl (d_Config_yes d hd) rfl ?_
  refine RG.runG ty_ok 0 400 rfl ?_; (repeat (first | with_reducible refine AW.seq ?_ | with_reducible refine AW.skip ?_ | with_reducible refine AW.block ?_ | ((with_reducible refine RG.id ?_); refine RG.nil ⟨?_, ?_⟩; · kernel_rfl) | ((with_reducible refine RG.id ?_); refine RG.nil ?_) | ((with_reducible refine AW.text ?_); refine RG.runG ty_ok 0 400 rfl ?_) | ((with_reducible refine AW.draws mixed_ok ?_); refine RG.runG ty_ok 0 400 rfl ?_)))
  cases hl : tablesFit l.tables
  · refine RG.call rfl rfl rfl rfl rfl (d_Letter_no l hl) rfl rfl ?_
    refine RG.runG ty_ok 0 400 rfl ?_; (repeat (first | with_reducible refine AW.seq ?_ | with_reducible refine AW.skip ?_ | with_reducible refine AW.block ?_ | ((with_reducible refine RG.id ?_); refine RG.nil ⟨?_, ?_⟩; · kernel_rfl) | ((with_reducible refine RG.id ?_); refine RG.nil ?_) | ((with_reducible refine AW.text ?_); refine RG.runG ty_ok 0 400 rfl ?_) | ((with_reducible refine AW.draws mixed_ok ?_); refine RG.runG ty_ok 0 400 rfl ?_)))
    refine RG.call rfl rfl rfl rfl rfl (d_Letter_any m) rfl rfl ?_
    refine RG.runG ty_ok 0 400 rfl ?_; (repeat (first | with_reducible refine AW.seq ?_ | with_reducible refine AW.skip ?_ | with_reducible refine AW.block ?_ | ((with_reducible refine RG.id ?_); refine RG.nil ⟨?_, ?_⟩; · kernel_rfl) | ((with_reducible refine RG.id ?_); refine RG.nil ?_) | ((with_reducible refine AW.text ?_); refine RG.runG ty_ok 0 400 rfl ?_) | ((with_reducible refine AW.draws mixed_ok ?_); refine RG.runG ty_ok 0 400 rfl ?_)))
    refine RG.call rfl rfl rfl rfl rfl d_awake rfl rfl ?_
    refine RG.runG ty_ok 0 400 rfl ?_; (repeat (first | with_reducible refine AW.seq ?_ | with_reducible refine AW.skip ?_ | with_reducible refine AW.block ?_ | ((with_reducible refine RG.id ?_); refine RG.nil ⟨?_, ?_⟩; · kernel_rfl) | ((with_reducible refine RG.id ?_); refine RG.nil ?_) | ((with_reducible refine AW.text ?_); refine RG.runG ty_ok 0 400 rfl ?_) | ((with_reducible refine AW.draws mixed_ok ?_); refine RG.runG ty_ok 0 400 rfl ?_))); refine AW.condT rfl ?_; skip; (repeat (first | with_reducible refine AW.seq ?_ | with_reducible refine AW.skip ?_ | with_reducible refine AW.block ?_ | ((with_reducible refine RG.id ?_); refine RG.nil ⟨?_, ?_⟩; · kernel_rfl) | ((with_reducible refine RG.id ?_); refine RG.nil ?_) | ((with_reducible refine AW.text ?_); refine RG.runG ty_ok 0 400 rfl ?_) | ((with_reducible refine AW.draws mixed_ok ?_); refine RG.runG ty_ok 0 400 rfl ?_)))
    refine RG.call rfl rfl rfl rfl rfl d_awake rfl rfl ?_
    refine RG.runG ty_ok 0 400 rfl ?_; (repeat (first | with_reducible refine AW.seq ?_ | with_reducible refine AW.skip ?_ | with_reducible refine AW.block ?_ | ((with_reducible refine RG.id ?_); refine RG.nil ⟨?_, ?_⟩; · kernel_rfl) | ((with_reducible refine RG.id ?_); refine RG.nil ?_) | ((with_reducible refine AW.text ?_); refine RG.runG ty_ok 0 400 rfl ?_) | ((with_reducible refine AW.draws mixed_ok ?_); refine RG.runG ty_ok 0 400 rfl ?_))); refine AW.ret (retQB rfl rfl ?_)
    rfl
  refine RG.callM rfl rfl rfl rfl rfl (d_Letter_yes l hl) rfl ?_
  refine RG.runG ty_ok 0 400 rfl ?_; (repeat (first | with_reducible refine AW.seq ?_ | with_reducible refine AW.skip ?_ | with_reducible refine AW.block ?_ | ((with_reducible refine RG.id ?_); refine RG.nil ⟨?_, ?_⟩; · kernel_rfl) | ((with_reducible refine RG.id ?_); refine RG.nil ?_) | ((with_reducible refine AW.text ?_); refine RG.runG ty_ok 0 400 rfl ?_) | ((with_reducible refine AW.draws mixed_ok ?_); refine RG.runG ty_ok 0 400 rfl ?_)))
  cases hm : tablesFit m.tables
  · refine RG.call rfl rfl rfl rfl rfl (d_Letter_no m hm) rfl rfl ?_
    refine RG.runG ty_ok 0 400 rfl ?_; (repeat (first | with_reducible refine AW.seq ?_ | with_reducible refine AW.skip ?_ | with_reducible refine AW.block ?_ | ((with_reducible refine RG.id ?_); refine RG.nil ⟨?_, ?_⟩; · kernel_rfl) | ((with_reducible refine RG.id ?_); refine RG.nil ?_) | ((with_reducible refine AW.text ?_); refine RG.runG ty_ok 0 400 rfl ?_) | ((with_reducible refine AW.draws mixed_ok ?_); refine RG.runG ty_ok 0 400 rfl ?_)))
    refine RG.call rfl rfl rfl rfl rfl d_awake rfl rfl ?_
    refine RG.runG ty_ok 0 400 rfl ?_; (repeat (first | with_reducible refine AW.seq ?_ | with_reducible refine AW.skip ?_ | with_reducible refine AW.block ?_ | ((with_reducible refine RG.id ?_); refine RG.nil ⟨?_, ?_⟩; · kernel_rfl) | ((with_reducible refine RG.id ?_); refine RG.nil ?_) | ((with_reducible refine AW.text ?_); refine RG.runG ty_ok 0 400 rfl ?_) | ((with_reducible refine AW.draws mixed_ok ?_); refine RG.runG ty_ok 0 400 rfl ?_))); refine AW.condT rfl ?_; skip; (repeat (first | with_reducible refine AW.seq ?_ | with_reducible refine AW.skip ?_ | with_reducible refine AW.block ?_ | ((with_reducible refine RG.id ?_); refine RG.nil ⟨?_, ?_⟩; · kernel_rfl) | ((with_reducible refine RG.id ?_); refine RG.nil ?_) | ((with_reducible refine AW.text ?_); refine RG.runG ty_ok 0 400 rfl ?_) | ((with_reducible refine AW.draws mixed_ok ?_); refine RG.runG ty_ok 0 400 rfl ?_)))
    refine RG.call rfl rfl rfl rfl rfl d_awake rfl rfl ?_
    refine RG.runG ty_ok 0 400 rfl ?_; (repeat (first | with_reducible refine AW.seq ?_ | with_reducible refine AW.skip ?_ | with_reducible refine AW.block ?_ | ((with_reducible refine RG.id ?_); refine RG.nil ⟨?_, ?_⟩; · kernel_rfl) | ((with_reducible refine RG.id ?_); refine RG.nil ?_) | ((with_reducible refine AW.text ?_); refine RG.runG ty_ok 0 400 rfl ?_) | ((with_reducible refine AW.draws mixed_ok ?_); refine RG.runG ty_ok 0 400 rfl ?_))); refine AW.ret (retQB rfl rfl ?_)
    rfl
  refine RG.callM rfl rfl rfl rfl rfl (d_Letter_yes m hm) rfl ?_
  refine RG.runG ty_ok 0 400 rfl ?_; (repeat (first | with_reducible refine AW.seq ?_ | with_reducible refine AW.skip ?_ | with_reducible refine AW.block ?_ | ((with_reducible refine RG.id ?_); refine RG.nil ⟨?_, ?_⟩; · kernel_rfl) | ((with_reducible refine RG.id ?_); refine RG.nil ?_) | ((with_reducible refine AW.text ?_); refine RG.runG ty_ok 0 400 rfl ?_) | ((with_reducible refine AW.draws mixed_ok ?_); refine RG.runG ty_ok 0 400 rfl ?_)))
  refine RG.call rfl rfl rfl rfl rfl d_awake rfl rfl ?_
  refine RG.runG ty_ok 0 400 rfl ?_; (repeat (first | with_reducible refine AW.seq ?_ | with_reducible refine AW.skip ?_ | with_reducible refine AW.block ?_ | ((with_reducible refine RG.id ?_); refine RG.nil ⟨?_, ?_⟩; · kernel_rfl) | ((with_reducible refine RG.id ?_); refine RG.nil ?_) | ((with_reducible refine AW.text ?_); refine RG.runG ty_ok 0 400 rfl ?_) | ((with_reducible refine AW.draws mixed_ok ?_); refine RG.runG ty_ok 0 400 rfl ?_))); refine AW.condF rfl ?_; skip; (repeat (first | with_reducible refine AW.seq ?_ | with_reducible refine AW.skip ?_ | with_reducible refine AW.block ?_ | ((with_reducible refine RG.id ?_); refine RG.nil ⟨?_, ?_⟩; · kernel_rfl) | ((with_reducible refine RG.id ?_); refine RG.nil ?_) | ((with_reducible refine AW.text ?_); refine RG.runG ty_ok 0 400 rfl ?_) | ((with_reducible refine AW.draws mixed_ok ?_); refine RG.runG ty_ok 0 400 rfl ?_)))
  refine RG.opx rfl (op_str rfl (tab_ok ty_ok rfl) rfl (tab_ok ty_ok rfl) rfl (tab_ok ty_ok rfl) rfl rfl) rfl ?_; refine RG.runG ty_ok 0 400 rfl ?_; refine RG.opx rfl (op_str rfl (tab_ok ty_ok rfl) rfl (tab_ok ty_ok rfl) rfl (tab_ok ty_ok rfl) rfl rfl) rfl ?_
  obtain ⟨X, hX⟩ : ∃ X : Bool, (X = true ↔ c = d) := by
    by_cases h : c = d
    · exact ⟨true, by simp [h]⟩
    · exact ⟨false, by simp [h]⟩
  obtain ⟨Y, hY⟩ : ∃ Y : Bool, (Y = true ↔ l = m) := by
    by_cases h : l = m
    · exact ⟨true, by simp [h]⟩
    · exact ⟨false, by simp [h]⟩
  have eX : decide (sealW c.words = sealW d.words) = X := by rw [Bool.eq_iff_iff, hX, decide_eq_true_iff, seal_cfg hc hd]
  have eY : decide (sealW l.words = sealW m.words) = Y := by rw [Bool.eq_iff_iff, hY, decide_eq_true_iff, seal_lt hl hm]
  refine RG.opx rfl (op_binE rfl rfl (congrArg AV.b eX)) rfl ?_
  refine RG.runG ty_ok 0 400 rfl ?_
  refine RG.call rfl rfl rfl rfl rfl (d_Same c d X hX) rfl rfl ?_
  refine RG.runO ty_ok 0 [(64, .b true)] 400 rfl (by simp only [Obs]; repeat' (first | exact trivial | apply And.intro); all_goals (first | rfl | simp)) ?_
  refine RG.opx rfl (op_str rfl (tab_ok ty_ok rfl) rfl (tab_ok ty_ok rfl) rfl (tab_ok ty_ok rfl) rfl rfl) rfl ?_; refine RG.runG ty_ok 0 400 rfl ?_; refine RG.opx rfl (op_str rfl (tab_ok ty_ok rfl) rfl (tab_ok ty_ok rfl) rfl (tab_ok ty_ok rfl) rfl rfl) rfl ?_
  refine RG.opx rfl (op_binE rfl rfl (congrArg AV.b eY)) rfl ?_
  refine RG.runG ty_ok 0 400 rfl ?_
  refine RG.call rfl rfl rfl rfl rfl (d_alike l m Y hY) rfl rfl ?_
  refine RG.runO ty_ok 0 [(74, .b true)] 400 rfl (by simp only [Obs]; repeat' (first | exact trivial | apply And.intro); all_goals (first | rfl | simp)) ?_
  skip; (repeat (first | with_reducible refine AW.seq ?_ | with_reducible refine AW.skip ?_ | with_reducible refine AW.block ?_ | ((with_reducible refine RG.id ?_); refine RG.nil ⟨?_, ?_⟩; · kernel_rfl) | ((with_reducible refine RG.id ?_); refine RG.nil ?_) | ((with_reducible refine AW.text ?_); refine RG.runG ty_ok 0 400 rfl ?_) | ((with_reducible refine AW.draws mixed_ok ?_); refine RG.runG ty_ok 0 400 rfl ?_))); refine AW.ret (retQB rfl rfl ?_)
  rfl
end Go.Proofs.Ytpaldbejnbcokaa.Sm
