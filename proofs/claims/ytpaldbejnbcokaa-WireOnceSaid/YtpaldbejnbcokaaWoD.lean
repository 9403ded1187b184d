/- The law WireOnce, walked over abstract values. -/
import Derived.Test.YtpaldbejnbcokaaWaD
import Derived.Test.YtpaldbejnbcokaaWcL
namespace Go.Proofs.Ytpaldbejnbcokaa.Sm
open Go.RowKit
set_option linter.unusedVariables false
set_option maxRecDepth 100000
set_option maxHeartbeats 2000000
theorem d_Entry_any (c : En) : PDoes Try.prog 23 [.agg (enC c)] (.tup [.any, .any]) := by
  cases h : c.cfg.fit
  · exact (d_Entry_no c h).any2
  · exact (d_Entry_yes c h).any2
theorem u8_wrap (w : UInt8) : IntKind.i64.wrap (w.toNat : Int) = (w.toNat : Int) := by
  have := w.toNat_lt
  rw [IntKind.wrap_i64]
  omega
theorem rem_ok (w : UInt8) (n : Nat) (h : n ≠ 0) : binA .rem (.i .i64 (IntKind.i64.wrap (w.toNat : Int))) (.i .i64 (n : Int)) = some (.i .i64 ((w.toNat % n : Nat) : Int)) := by
  show cond (decide ((n : Int) = 0)) none (some (AV.i .i64 ((IntKind.i64.wrap (w.toNat : Int)).tmod (n : Int)))) = _
  rw [decide_eq_false (by omega), u8_wrap, ← Int.ofNat_tmod]
  rfl
theorem WireOnce_d (c : Cfg) (w : UInt8) (a b d : UInt64) : PDoes Try.prog 7 [.agg (cfgC c), .y w, .i .i64 (i64of a), .i .i64 (i64of b), .i .i64 (i64of d)] (.b true) := by
  refine PDoes.of_bodyN Try.func7 rfl (by kernel_rfl) rfl rfl ?_
  skip; (repeat (first | with_reducible refine AW.seq ?_ | with_reducible refine AW.skip ?_ | with_reducible refine AW.block ?_ | ((with_reducible refine RG.id ?_); refine RG.nil ⟨?_, ?_⟩; · kernel_rfl) | ((with_reducible refine RG.id ?_); refine RG.nil ?_) | ((with_reducible refine AW.text ?_); refine RG.runG ty_ok 0 400 rfl ?_) | ((with_reducible refine AW.draws mixed_ok ?_); refine RG.runG ty_ok 0 400 rfl ?_)))
  refine AW.cond rfl (fun h => ?_) (fun h => ?_)
  · skip
    skip; (repeat (first | with_reducible refine AW.seq ?_ | with_reducible refine AW.skip ?_ | with_reducible refine AW.block ?_ | ((with_reducible refine RG.id ?_); refine RG.nil ⟨?_, ?_⟩; · kernel_rfl) | ((with_reducible refine RG.id ?_); refine RG.nil ?_) | ((with_reducible refine AW.text ?_); refine RG.runG ty_ok 0 400 rfl ?_) | ((with_reducible refine AW.draws mixed_ok ?_); refine RG.runG ty_ok 0 400 rfl ?_)))
    refine RG.call rfl rfl rfl rfl rfl d_awake rfl rfl ?_
    refine RG.runG ty_ok 0 400 rfl ?_; (repeat (first | with_reducible refine AW.seq ?_ | with_reducible refine AW.skip ?_ | with_reducible refine AW.block ?_ | ((with_reducible refine RG.id ?_); refine RG.nil ⟨?_, ?_⟩; · kernel_rfl) | ((with_reducible refine RG.id ?_); refine RG.nil ?_) | ((with_reducible refine AW.text ?_); refine RG.runG ty_ok 0 400 rfl ?_) | ((with_reducible refine AW.draws mixed_ok ?_); refine RG.runG ty_ok 0 400 rfl ?_))); refine AW.ret (retQB rfl rfl ?_)
    rfl
  have hn : (c.tables.map encTab).length ≠ 0 := by
    intro e
    rw [e] at h
    simp at h
  skip; (repeat (first | with_reducible refine AW.seq ?_ | with_reducible refine AW.skip ?_ | with_reducible refine AW.block ?_ | ((with_reducible refine RG.id ?_); refine RG.nil ⟨?_, ?_⟩; · kernel_rfl) | ((with_reducible refine RG.id ?_); refine RG.nil ?_) | with_reducible refine AW.text ?_ | with_reducible refine AW.draws mixed_ok ?_))
  refine RG.runG ty_ok 0 12 rfl ?_
  refine RG.opx rfl (op_binE rfl (rem_ok w _ hn) rfl) rfl ?_
  obtain ⟨t, ht⟩ : ∃ t, c.tables[w.toNat % (c.tables.map encTab).length]? = some t := ⟨_, List.getElem?_eq_getElem (by
    have := Nat.mod_lt w.toNat (Nat.pos_of_ne_zero hn)
    rw [List.length_map] at this ⊢
    exact this)⟩
  have hidx : (c.tables.map encTab)[w.toNat % (c.tables.map encTab).length]? = some (encTab t) := by rw [List.getElem?_map, ht]; rfl
  refine RG.opx rfl (op_index rfl (tab_ok ty_ok rfl) rfl (tab_ok ty_ok rfl) rfl rfl hidx rfl) rfl ?_
  refine RG.runG ty_ok 0 400 rfl ?_; (repeat (first | with_reducible refine AW.seq ?_ | with_reducible refine AW.skip ?_ | with_reducible refine AW.block ?_ | ((with_reducible refine RG.id ?_); refine RG.nil ⟨?_, ?_⟩; · kernel_rfl) | ((with_reducible refine RG.id ?_); refine RG.nil ?_) | ((with_reducible refine AW.text ?_); refine RG.runG ty_ok 0 400 rfl ?_) | ((with_reducible refine AW.draws mixed_ok ?_); refine RG.runG ty_ok 0 400 rfl ?_)))
  obtain ⟨x, hx⟩ : ∃ x : Lt, x = ⟨a, b, d, b, a, t⟩ := ⟨_, rfl⟩
  obtain ⟨y, hy⟩ : ∃ y : En, y = ⟨a, b, d, c⟩ := ⟨_, rfl⟩
  cases hf : tablesFit t
  · refine RG.call rfl rfl rfl rfl rfl (d_Letter_no ⟨a, b, d, b, a, t⟩ hf) rfl rfl ?_
    refine RG.runG ty_ok 0 400 rfl ?_; (repeat (first | with_reducible refine AW.seq ?_ | with_reducible refine AW.skip ?_ | with_reducible refine AW.block ?_ | ((with_reducible refine RG.id ?_); refine RG.nil ⟨?_, ?_⟩; · kernel_rfl) | ((with_reducible refine RG.id ?_); refine RG.nil ?_) | ((with_reducible refine AW.text ?_); refine RG.runG ty_ok 0 400 rfl ?_) | ((with_reducible refine AW.draws mixed_ok ?_); refine RG.runG ty_ok 0 400 rfl ?_)))
    refine RG.call rfl rfl rfl rfl rfl (d_Entry_any ⟨a, b, d, c⟩) rfl rfl ?_
    refine RG.runG ty_ok 0 400 rfl ?_; (repeat (first | with_reducible refine AW.seq ?_ | with_reducible refine AW.skip ?_ | with_reducible refine AW.block ?_ | ((with_reducible refine RG.id ?_); refine RG.nil ⟨?_, ?_⟩; · kernel_rfl) | ((with_reducible refine RG.id ?_); refine RG.nil ?_) | ((with_reducible refine AW.text ?_); refine RG.runG ty_ok 0 400 rfl ?_) | ((with_reducible refine AW.draws mixed_ok ?_); refine RG.runG ty_ok 0 400 rfl ?_)))
    refine RG.call rfl rfl rfl rfl rfl d_awake rfl rfl ?_
    refine RG.runG ty_ok 0 400 rfl ?_; (repeat (first | with_reducible refine AW.seq ?_ | with_reducible refine AW.skip ?_ | with_reducible refine AW.block ?_ | ((with_reducible refine RG.id ?_); refine RG.nil ⟨?_, ?_⟩; · kernel_rfl) | ((with_reducible refine RG.id ?_); refine RG.nil ?_) | ((with_reducible refine AW.text ?_); refine RG.runG ty_ok 0 400 rfl ?_) | ((with_reducible refine AW.draws mixed_ok ?_); refine RG.runG ty_ok 0 400 rfl ?_))); refine AW.condT rfl ?_; skip; (repeat (first | with_reducible refine AW.seq ?_ | with_reducible refine AW.skip ?_ | with_reducible refine AW.block ?_ | ((with_reducible refine RG.id ?_); refine RG.nil ⟨?_, ?_⟩; · kernel_rfl) | ((with_reducible refine RG.id ?_); refine RG.nil ?_) | ((with_reducible refine AW.text ?_); refine RG.runG ty_ok 0 400 rfl ?_) | ((with_reducible refine AW.draws mixed_ok ?_); refine RG.runG ty_ok 0 400 rfl ?_)))
    refine RG.call rfl rfl rfl rfl rfl d_awake rfl rfl ?_
    refine RG.runG ty_ok 0 400 rfl ?_; (repeat (first | with_reducible refine AW.seq ?_ | with_reducible refine AW.skip ?_ | with_reducible refine AW.block ?_ | ((with_reducible refine RG.id ?_); refine RG.nil ⟨?_, ?_⟩; · kernel_rfl) | ((with_reducible refine RG.id ?_); refine RG.nil ?_) | ((with_reducible refine AW.text ?_); refine RG.runG ty_ok 0 400 rfl ?_) | ((with_reducible refine AW.draws mixed_ok ?_); refine RG.runG ty_ok 0 400 rfl ?_))); refine AW.ret (retQB rfl rfl ?_)
    rfl
  refine RG.callM rfl rfl rfl rfl rfl (d_Letter_yes ⟨a, b, d, b, a, t⟩ hf) rfl ?_
  refine RG.runG ty_ok 0 400 rfl ?_; (repeat (first | with_reducible refine AW.seq ?_ | with_reducible refine AW.skip ?_ | with_reducible refine AW.block ?_ | ((with_reducible refine RG.id ?_); refine RG.nil ⟨?_, ?_⟩; · kernel_rfl) | ((with_reducible refine RG.id ?_); refine RG.nil ?_) | ((with_reducible refine AW.text ?_); refine RG.runG ty_ok 0 400 rfl ?_) | ((with_reducible refine AW.draws mixed_ok ?_); refine RG.runG ty_ok 0 400 rfl ?_)))
  cases hc : c.fit
  · refine RG.call rfl rfl rfl rfl rfl (d_Entry_no ⟨a, b, d, c⟩ hc) rfl rfl ?_
    refine RG.runG ty_ok 0 400 rfl ?_; (repeat (first | with_reducible refine AW.seq ?_ | with_reducible refine AW.skip ?_ | with_reducible refine AW.block ?_ | ((with_reducible refine RG.id ?_); refine RG.nil ⟨?_, ?_⟩; · kernel_rfl) | ((with_reducible refine RG.id ?_); refine RG.nil ?_) | ((with_reducible refine AW.text ?_); refine RG.runG ty_ok 0 400 rfl ?_) | ((with_reducible refine AW.draws mixed_ok ?_); refine RG.runG ty_ok 0 400 rfl ?_)))
    refine RG.call rfl rfl rfl rfl rfl d_awake rfl rfl ?_
    refine RG.runG ty_ok 0 400 rfl ?_; (repeat (first | with_reducible refine AW.seq ?_ | with_reducible refine AW.skip ?_ | with_reducible refine AW.block ?_ | ((with_reducible refine RG.id ?_); refine RG.nil ⟨?_, ?_⟩; · kernel_rfl) | ((with_reducible refine RG.id ?_); refine RG.nil ?_) | ((with_reducible refine AW.text ?_); refine RG.runG ty_ok 0 400 rfl ?_) | ((with_reducible refine AW.draws mixed_ok ?_); refine RG.runG ty_ok 0 400 rfl ?_))); refine AW.condT rfl ?_; skip; (repeat (first | with_reducible refine AW.seq ?_ | with_reducible refine AW.skip ?_ | with_reducible refine AW.block ?_ | ((with_reducible refine RG.id ?_); refine RG.nil ⟨?_, ?_⟩; · kernel_rfl) | ((with_reducible refine RG.id ?_); refine RG.nil ?_) | ((with_reducible refine AW.text ?_); refine RG.runG ty_ok 0 400 rfl ?_) | ((with_reducible refine AW.draws mixed_ok ?_); refine RG.runG ty_ok 0 400 rfl ?_)))
    refine RG.call rfl rfl rfl rfl rfl d_awake rfl rfl ?_
    refine RG.runG ty_ok 0 400 rfl ?_; (repeat (first | with_reducible refine AW.seq ?_ | with_reducible refine AW.skip ?_ | with_reducible refine AW.block ?_ | ((with_reducible refine RG.id ?_); refine RG.nil ⟨?_, ?_⟩; · kernel_rfl) | ((with_reducible refine RG.id ?_); refine RG.nil ?_) | ((with_reducible refine AW.text ?_); refine RG.runG ty_ok 0 400 rfl ?_) | ((with_reducible refine AW.draws mixed_ok ?_); refine RG.runG ty_ok 0 400 rfl ?_))); refine AW.ret (retQB rfl rfl ?_)
    rfl
  refine RG.callM rfl rfl rfl rfl rfl (d_Entry_yes ⟨a, b, d, c⟩ hc) rfl ?_
  refine RG.runG ty_ok 0 400 rfl ?_; (repeat (first | with_reducible refine AW.seq ?_ | with_reducible refine AW.skip ?_ | with_reducible refine AW.block ?_ | ((with_reducible refine RG.id ?_); refine RG.nil ⟨?_, ?_⟩; · kernel_rfl) | ((with_reducible refine RG.id ?_); refine RG.nil ?_) | ((with_reducible refine AW.text ?_); refine RG.runG ty_ok 0 400 rfl ?_) | ((with_reducible refine AW.draws mixed_ok ?_); refine RG.runG ty_ok 0 400 rfl ?_)))
  refine RG.call rfl rfl rfl rfl rfl d_awake rfl rfl ?_
  refine RG.runG ty_ok 0 400 rfl ?_; (repeat (first | with_reducible refine AW.seq ?_ | with_reducible refine AW.skip ?_ | with_reducible refine AW.block ?_ | ((with_reducible refine RG.id ?_); refine RG.nil ⟨?_, ?_⟩; · kernel_rfl) | ((with_reducible refine RG.id ?_); refine RG.nil ?_) | ((with_reducible refine AW.text ?_); refine RG.runG ty_ok 0 400 rfl ?_) | ((with_reducible refine AW.draws mixed_ok ?_); refine RG.runG ty_ok 0 400 rfl ?_))); refine AW.condF rfl ?_; skip; (repeat (first | with_reducible refine AW.seq ?_ | with_reducible refine AW.skip ?_ | with_reducible refine AW.block ?_ | ((with_reducible refine RG.id ?_); refine RG.nil ⟨?_, ?_⟩; · kernel_rfl) | ((with_reducible refine RG.id ?_); refine RG.nil ?_) | ((with_reducible refine AW.text ?_); refine RG.runG ty_ok 0 400 rfl ?_) | ((with_reducible refine AW.draws mixed_ok ?_); refine RG.runG ty_ok 0 400 rfl ?_)))
  refine RG.callM rfl rfl rfl rfl rfl (d_ReadLetter_yes _ ⟨a, b, d, b, a, t⟩ ⟨hf, rfl⟩ (fun y hy => reads_lt y hy) (lt_len hf)) rfl ?_
  refine RG.runG ty_ok 0 400 rfl ?_; (repeat (first | with_reducible refine AW.seq ?_ | with_reducible refine AW.skip ?_ | with_reducible refine AW.block ?_ | ((with_reducible refine RG.id ?_); refine RG.nil ⟨?_, ?_⟩; · kernel_rfl) | ((with_reducible refine RG.id ?_); refine RG.nil ?_) | ((with_reducible refine AW.text ?_); refine RG.runG ty_ok 0 400 rfl ?_) | ((with_reducible refine AW.draws mixed_ok ?_); refine RG.runG ty_ok 0 400 rfl ?_)))
  refine RG.callM rfl rfl rfl rfl rfl (d_ReadEntry_yes _ ⟨a, b, d, c⟩ ⟨hc, rfl⟩ (fun y hy => reads_en y hy) (en_len hc)) rfl ?_
  refine RG.runG ty_ok 0 400 rfl ?_; (repeat (first | with_reducible refine AW.seq ?_ | with_reducible refine AW.skip ?_ | with_reducible refine AW.block ?_ | ((with_reducible refine RG.id ?_); refine RG.nil ⟨?_, ?_⟩; · kernel_rfl) | ((with_reducible refine RG.id ?_); refine RG.nil ?_) | ((with_reducible refine AW.text ?_); refine RG.runG ty_ok 0 400 rfl ?_) | ((with_reducible refine AW.draws mixed_ok ?_); refine RG.runG ty_ok 0 400 rfl ?_)))
  refine RG.call rfl rfl rfl rfl rfl (d_alike ⟨a, b, d, b, a, t⟩ ⟨a, b, d, b, a, t⟩ true (by simp)) rfl rfl ?_
  refine RG.runO ty_ok 0 [(91, .b true), (97, .b true), (103, .b true)] 400 rfl (by simp only [Obs]; repeat' (first | exact trivial | apply And.intro); all_goals (first | rfl | simp)) ?_
  refine RG.call rfl rfl rfl rfl rfl (d_Same c c true (by simp)) rfl rfl ?_
  refine RG.runG ty_ok 0 400 rfl ?_; (repeat (first | with_reducible refine AW.seq ?_ | with_reducible refine AW.skip ?_ | with_reducible refine AW.block ?_ | ((with_reducible refine RG.id ?_); refine RG.nil ⟨?_, ?_⟩; · kernel_rfl) | ((with_reducible refine RG.id ?_); refine RG.nil ?_) | ((with_reducible refine AW.text ?_); refine RG.runG ty_ok 0 400 rfl ?_) | ((with_reducible refine AW.draws mixed_ok ?_); refine RG.runG ty_ok 0 400 rfl ?_))); refine AW.ret (retQB rfl rfl ?_)
  rfl
end Go.Proofs.Ytpaldbejnbcokaa.Sm
