/- The methods of a Book as contracts over its content as data. No condition. law22's own functions as contracts over data. No condition. law22's awake, BookNone as contracts over data. No condition. -/
import Derived.Test.YtpaldbejnbcokaaWp
import Derived.Test.YtpaldbejnbcokaaSm4
import Derived.Test.YtpaldbejnbcokaaWcL
section
namespace Go.Proofs.Ytpaldbejnbcokaa.Sm
open Go.RowKit
set_option linter.unusedVariables false
set_option maxRecDepth 100000
set_option maxHeartbeats 2000000
/-- What a Book holds. -/
structure Bk where
  all : List UInt8
  sure : Nat
  fuse : Int
  dead : Bool
/-- A Book's blocks: its own, and the row of its bytes. -/
def bkB (b : Bk) : List (Nat × SB) := [(0, ⟨0, some (.box 124 [.row 1 0 0 (byteEls b.all).length, .i .i64 b.sure, .i .i64 b.fuse, .b b.dead])⟩), (1, ⟨0, some (.row 5 1 (byteEls b.all))⟩)]
theorem bk_end {s : St} {q : Nat → Option (Nat × Nat)} {b : Bk} {e e1 e1' g n : Nat} {su fu : Int} {de : Bool} {els : List (List AV)} (h0 : s.σ 0 = ⟨e, some (.box 124 [.row 1 e1 0 n, .i .i64 su, .i .i64 fu, .b de])⟩) (h1 : s.σ 1 = ⟨e1', some (.row 5 1 els)⟩) (hg : s.σ 900 = ⟨g, some (.ghost 0 e (q 0))⟩)
    (he : e1 = e1') (hn : n = (byteEls b.all).length) (hel : els = byteEls b.all) (hs : su = b.sure) (hf : fu = b.fuse) (hd : de = b.dead) : WkB s (lkB (gl q [0] (bkB b))) (gl q [0] (bkB b)) := by
  subst he hn hel hs hf hd
  exact ⟨.ghost hg h0 rfl, .boxL h0 ⟨Rn.rowIs rfl h1 rfl, Rn.is rfl rfl, Rn.is rfl rfl, Rn.is rfl rfl, trivial⟩ rfl, .row h1 rfl, trivial⟩
theorem m_New (q : Nat → Option (Nat × Nat)) : MDoes Try.prog 25 [] (gl q [] []) (.own 2 0 0) (gl q [] [(2, ⟨0, some (.box 124 [.row 1 0 0 0, .i .i64 0, .i .i64 (-1), .b false])⟩), (1, ⟨0, some (.row 5 1 [])⟩)]) := by
  refine MDoes.of_body Try.func25 rfl (by kernel_rfl) rfl rfl ?_
  skip; (repeat (first | with_reducible refine AW.seq ?_ | with_reducible refine AW.skip ?_ | with_reducible refine AW.block ?_ | ((with_reducible refine RG.id ?_); refine RG.nil ⟨?_, ?_⟩; · kernel_rfl) | ((with_reducible refine RG.id ?_); refine RG.nil ?_) | ((with_reducible refine AW.text ?_); refine RG.runG ty_ok 0 400 rfl ?_) | ((with_reducible refine AW.draws mixed_ok ?_); refine RG.runG ty_ok 0 400 rfl ?_)))
  refine AW.nilRow 1 0 5 1 [(0, .own 2 0 0)] [(2, ⟨0, some (.box 124 [.row 1 0 0 0, .i .i64 0, .i .i64 (-1), .b false])⟩), (1, ⟨0, some (.row 5 1 [])⟩)] ⟨.rn (Rn.ownIs rfl rfl rfl), trivial⟩ ⟨.boxL rfl ⟨.nil rfl, RnN.is rfl rfl, RnN.is rfl rfl, RnN.is rfl rfl, trivial⟩ rfl, .old (.row rfl rfl), trivial⟩ ?_
  refine AW.ret (retM1 rfl (Rm.ownIs rfl rfl rfl rfl) ⟨.boxL rfl ⟨Rn.rowIs rfl rfl rfl, Rn.is rfl rfl, Rn.is rfl rfl, Rn.is rfl rfl, trivial⟩ rfl, .row rfl rfl, trivial⟩)
theorem m_live (b : Bk) (q : Nat → Option (Nat × Nat)) : MDoes Try.prog 53 [.own 0 0 0] (gl q [0] (bkB b)) (.i .i64 (cond b.dead 9 0)) (gl q [0] (bkB b)) := by
  refine MDoes.of_body Try.func53 rfl (by kernel_rfl) rfl rfl ?_
  skip; (repeat (first | with_reducible refine AW.seq ?_ | with_reducible refine AW.skip ?_ | with_reducible refine AW.block ?_ | ((with_reducible refine RG.id ?_); refine RG.nil ⟨?_, ?_⟩; · kernel_rfl) | ((with_reducible refine RG.id ?_); refine RG.nil ?_) | ((with_reducible refine AW.text ?_); refine RG.runG ty_ok 0 400 rfl ?_) | ((with_reducible refine AW.draws mixed_ok ?_); refine RG.runG ty_ok 0 400 rfl ?_))); refine AW.condF rfl ?_; skip; (repeat (first | with_reducible refine AW.seq ?_ | with_reducible refine AW.skip ?_ | with_reducible refine AW.block ?_ | ((with_reducible refine RG.id ?_); refine RG.nil ⟨?_, ?_⟩; · kernel_rfl) | ((with_reducible refine RG.id ?_); refine RG.nil ?_) | ((with_reducible refine AW.text ?_); refine RG.runG ty_ok 0 400 rfl ?_) | ((with_reducible refine AW.draws mixed_ok ?_); refine RG.runG ty_ok 0 400 rfl ?_)))
  refine AW.cond rfl (fun h => ?_) (fun h => ?_)
  · skip
    skip; (repeat (first | with_reducible refine AW.seq ?_ | with_reducible refine AW.skip ?_ | with_reducible refine AW.block ?_ | ((with_reducible refine RG.id ?_); refine RG.nil ⟨?_, ?_⟩; · kernel_rfl) | ((with_reducible refine RG.id ?_); refine RG.nil ?_) | ((with_reducible refine AW.text ?_); refine RG.runG ty_ok 0 400 rfl ?_) | ((with_reducible refine AW.draws mixed_ok ?_); refine RG.runG ty_ok 0 400 rfl ?_)))
    refine AW.ret (retM1 rfl (Rm.is ?_ rfl) (bk_end rfl rfl rfl rfl rfl rfl rfl rfl rfl))
    rw [show b.dead = true from h]
    rfl
  · skip
    skip; (repeat (first | with_reducible refine AW.seq ?_ | with_reducible refine AW.skip ?_ | with_reducible refine AW.block ?_ | ((with_reducible refine RG.id ?_); refine RG.nil ⟨?_, ?_⟩; · kernel_rfl) | ((with_reducible refine RG.id ?_); refine RG.nil ?_) | ((with_reducible refine AW.text ?_); refine RG.runG ty_ok 0 400 rfl ?_) | ((with_reducible refine AW.draws mixed_ok ?_); refine RG.runG ty_ok 0 400 rfl ?_)))
    refine AW.ret (retM1 rfl (Rm.is ?_ rfl) (bk_end rfl rfl rfl rfl rfl rfl rfl rfl rfl))
    rw [show b.dead = false from h]
    rfl
theorem m_Size (b : Bk) (q : Nat → Option (Nat × Nat)) : MDoes Try.prog 34 [.own 0 0 0] (gl q [0] (bkB b)) (.i .i64 (byteEls b.all).length) (gl q [0] (bkB b)) := by
  refine MDoes.of_body Try.func34 rfl (by kernel_rfl) rfl rfl ?_
  skip; (repeat (first | with_reducible refine AW.seq ?_ | with_reducible refine AW.skip ?_ | with_reducible refine AW.block ?_ | ((with_reducible refine RG.id ?_); refine RG.nil ⟨?_, ?_⟩; · kernel_rfl) | ((with_reducible refine RG.id ?_); refine RG.nil ?_) | ((with_reducible refine AW.text ?_); refine RG.runG ty_ok 0 400 rfl ?_) | ((with_reducible refine AW.draws mixed_ok ?_); refine RG.runG ty_ok 0 400 rfl ?_))); refine AW.condF rfl ?_; skip; (repeat (first | with_reducible refine AW.seq ?_ | with_reducible refine AW.skip ?_ | with_reducible refine AW.block ?_ | ((with_reducible refine RG.id ?_); refine RG.nil ⟨?_, ?_⟩; · kernel_rfl) | ((with_reducible refine RG.id ?_); refine RG.nil ?_) | ((with_reducible refine AW.text ?_); refine RG.runG ty_ok 0 400 rfl ?_) | ((with_reducible refine AW.draws mixed_ok ?_); refine RG.runG ty_ok 0 400 rfl ?_)))
  refine AW.ret (retM1 rfl (Rm.is rfl rfl) (bk_end rfl rfl rfl rfl rfl rfl rfl rfl rfl))
theorem m_Fuse (b : Bk) (n : Int) (q : Nat → Option (Nat × Nat)) : MDoes Try.prog 29 [.own 0 0 0, .i .i64 n] (gl q [0] (bkB b)) (.tup []) (gl q [0] (bkB { b with fuse := max n (-1) })) := by
  refine MDoes.of_body Try.func29 rfl (by kernel_rfl) rfl rfl ?_
  skip; (repeat (first | with_reducible refine AW.seq ?_ | with_reducible refine AW.skip ?_ | with_reducible refine AW.block ?_ | ((with_reducible refine RG.id ?_); refine RG.nil ⟨?_, ?_⟩; · kernel_rfl) | ((with_reducible refine RG.id ?_); refine RG.nil ?_) | ((with_reducible refine AW.text ?_); refine RG.runG ty_ok 0 400 rfl ?_) | ((with_reducible refine AW.draws mixed_ok ?_); refine RG.runG ty_ok 0 400 rfl ?_))); refine AW.condT rfl ?_; skip; (repeat (first | with_reducible refine AW.seq ?_ | with_reducible refine AW.skip ?_ | with_reducible refine AW.block ?_ | ((with_reducible refine RG.id ?_); refine RG.nil ⟨?_, ?_⟩; · kernel_rfl) | ((with_reducible refine RG.id ?_); refine RG.nil ?_) | ((with_reducible refine AW.text ?_); refine RG.runG ty_ok 0 400 rfl ?_) | ((with_reducible refine AW.draws mixed_ok ?_); refine RG.runG ty_ok 0 400 rfl ?_)))
  exact retM0 rfl (.inl rfl) (bk_end rfl rfl rfl rfl rfl rfl rfl rfl rfl)
def Bk.burn (b : Bk) : Bk := if b.fuse = 0 then { b with dead := true } else { b with fuse := max (b.fuse - 1) (-1) }
theorem m_burn (b : Bk) (hf : -1 ≤ b.fuse ∧ b.fuse ≤ 9223372036854775807) (q : Nat → Option (Nat × Nat)) : MDoes Try.prog 54 [.own 0 0 0] (gl q [0] (bkB b)) (.b (!decide (b.fuse = 0))) (gl q [0] (bkB b.burn)) := by
  refine MDoes.of_body Try.func54 rfl (by kernel_rfl) rfl rfl ?_
  skip; (repeat (first | with_reducible refine AW.seq ?_ | with_reducible refine AW.skip ?_ | with_reducible refine AW.block ?_ | ((with_reducible refine RG.id ?_); refine RG.nil ⟨?_, ?_⟩; · kernel_rfl) | ((with_reducible refine RG.id ?_); refine RG.nil ?_) | ((with_reducible refine AW.text ?_); refine RG.runG ty_ok 0 400 rfl ?_) | ((with_reducible refine AW.draws mixed_ok ?_); refine RG.runG ty_ok 0 400 rfl ?_)))
  refine AW.cond rfl (fun h => ?_) (fun h => ?_)
  · skip
    skip; (repeat (first | with_reducible refine AW.seq ?_ | with_reducible refine AW.skip ?_ | with_reducible refine AW.block ?_ | ((with_reducible refine RG.id ?_); refine RG.nil ⟨?_, ?_⟩; · kernel_rfl) | ((with_reducible refine RG.id ?_); refine RG.nil ?_) | ((with_reducible refine AW.text ?_); refine RG.runG ty_ok 0 400 rfl ?_) | ((with_reducible refine AW.draws mixed_ok ?_); refine RG.runG ty_ok 0 400 rfl ?_)))
    have h : b.fuse = 0 := by simpa using h
    refine AW.ret (retM1 rfl (Rm.is ?_ rfl) ?_)
    · rw [h]; rfl
    · rw [show b.burn = { b with dead := true } from if_pos h]
      exact bk_end rfl rfl rfl rfl rfl rfl rfl rfl rfl
  · skip
    skip; (repeat (first | with_reducible refine AW.seq ?_ | with_reducible refine AW.skip ?_ | with_reducible refine AW.block ?_ | ((with_reducible refine RG.id ?_); refine RG.nil ⟨?_, ?_⟩; · kernel_rfl) | ((with_reducible refine RG.id ?_); refine RG.nil ?_) | ((with_reducible refine AW.text ?_); refine RG.runG ty_ok 0 400 rfl ?_) | ((with_reducible refine AW.draws mixed_ok ?_); refine RG.runG ty_ok 0 400 rfl ?_)))
    have h : ¬ b.fuse = 0 := by simpa using h
    refine AW.ret (retM1 rfl (Rm.is ?_ rfl) ?_)
    · rw [decide_eq_false h]; rfl
    · rw [show b.burn = { b with fuse := max (b.fuse - 1) (-1) } from if_neg h]
      refine bk_end rfl rfl rfl rfl rfl rfl rfl ?_ rfl
      show max (IntKind.i64.wrap (b.fuse - 1)) (-1) = max (b.fuse - 1) (-1)
      rw [IntKind.wrap_i64]
      omega
theorem m_burn_ok (b : Bk) (hf : -1 ≤ b.fuse ∧ b.fuse ≤ 9223372036854775807) (h : b.fuse ≠ 0) (q : Nat → Option (Nat × Nat)) : MDoes Try.prog 54 [.own 0 0 0] (gl q [0] (bkB b)) (.b true) (gl q [0] (bkB { b with fuse := max (b.fuse - 1) (-1) })) := by
  have := m_burn b hf q
  rw [decide_eq_false h, show b.burn = { b with fuse := max (b.fuse - 1) (-1) } from if_neg h] at this
  exact this
theorem m_burn_cut (b : Bk) (h : b.fuse = 0) (q : Nat → Option (Nat × Nat)) : MDoes Try.prog 54 [.own 0 0 0] (gl q [0] (bkB b)) (.b false) (gl q [0] (bkB { b with dead := true })) := by
  have := m_burn b (by omega) q
  rw [decide_eq_true h, show b.burn = { b with dead := true } from if_pos h] at this
  exact this
def Bk.keeps (b : Bk) (keep : Int) : Nat := b.sure + (max 0 (min keep ((b.all.length : Int) - b.sure))).toNat
def Bk.crash (b : Bk) (keep : Int) : Bk := { all := b.all.take (b.keeps keep), sure := b.keeps keep, fuse := -1, dead := false }
theorem keeps_le (b : Bk) (keep : Int) (h1 : b.sure ≤ b.all.length) : b.keeps keep ≤ b.all.length := by
  unfold Bk.keeps
  omega
theorem byteEls_len (l : List UInt8) : (byteEls l).length = l.length := List.length_map ..
theorem m_Crash (b : Bk) (keep : Int) (h1 : b.sure ≤ b.all.length) (h2 : b.all.length ≤ 140737488355328) (q : Nat → Option (Nat × Nat)) : MDoes Try.prog 30 [.own 0 0 0, .i .i64 keep] (gl q [0] (bkB b)) (.tup []) (gl q [0] (bkB (b.crash keep))) := by
  refine MDoes.of_body Try.func30 rfl (by kernel_rfl) rfl rfl ?_
  have hk := keeps_le b keep h1
  skip; (repeat (first | with_reducible refine AW.seq ?_ | with_reducible refine AW.skip ?_ | with_reducible refine AW.block ?_ | ((with_reducible refine RG.id ?_); refine RG.nil ⟨?_, ?_⟩; · kernel_rfl) | ((with_reducible refine RG.id ?_); refine RG.nil ?_) | ((with_reducible refine AW.text ?_); refine RG.runG ty_ok 0 400 rfl ?_) | ((with_reducible refine AW.draws mixed_ok ?_); refine RG.runG ty_ok 0 400 rfl ?_))); refine AW.condF rfl ?_; skip; (repeat (first | with_reducible refine AW.seq ?_ | with_reducible refine AW.skip ?_ | with_reducible refine AW.block ?_ | ((with_reducible refine RG.id ?_); refine RG.nil ⟨?_, ?_⟩; · kernel_rfl) | ((with_reducible refine RG.id ?_); refine RG.nil ?_) | with_reducible refine AW.text ?_ | with_reducible refine AW.draws mixed_ok ?_))
  refine RG.runO ty_ok 0 [(23, .i .i64 (b.keeps keep))] 400 rfl ⟨?_, trivial⟩ ?_
  · rw [byteEls_len]
    simp only [IntKind.wrap_i64, Bk.keeps, Int.ofNat_eq_natCast]
    congr 1
    omega
  skip; (repeat (first | with_reducible refine AW.seq ?_ | with_reducible refine AW.skip ?_ | with_reducible refine AW.block ?_ | ((with_reducible refine RG.id ?_); refine RG.nil ⟨?_, ?_⟩; · kernel_rfl) | ((with_reducible refine RG.id ?_); refine RG.nil ?_) | ((with_reducible refine AW.text ?_); refine RG.runG ty_ok 0 400 rfl ?_) | ((with_reducible refine AW.draws mixed_ok ?_); refine RG.runG ty_ok 0 400 rfl ?_)))
  refine RG.opS rfl (op_sliceR (h := b.keeps keep) rfl (tab_ok ty_ok rfl) rfl (tab_ok ty_ok rfl) rfl rfl .no (.at_ rfl) (by rw [byteEls_len]; exact hk)) rfl ?_
  refine RG.runG ty_ok 0 400 rfl ?_; (repeat (first | with_reducible refine AW.seq ?_ | with_reducible refine AW.skip ?_ | with_reducible refine AW.block ?_ | ((with_reducible refine RG.id ?_); refine RG.nil ⟨?_, ?_⟩; · kernel_rfl) | ((with_reducible refine RG.id ?_); refine RG.nil ?_) | ((with_reducible refine AW.text ?_); refine RG.runG ty_ok 0 400 rfl ?_) | ((with_reducible refine AW.draws mixed_ok ?_); refine RG.runG ty_ok 0 400 rfl ?_)))
  refine retM0 rfl (.inl rfl) ⟨.ghost rfl rfl rfl, .boxL rfl ⟨Rn.rowTIs ?_ rfl rfl ?_, Rn.is rfl rfl, Rn.is rfl rfl, Rn.is rfl rfl, trivial⟩ rfl, .rowT (n := b.keeps keep) rfl (List.map_take ..).symm, trivial⟩
  · show AV.row 1 0 0 (b.keeps keep) = AV.row 1 0 0 (byteEls (b.all.take (b.keeps keep))).length
    rw [byteEls_len, List.length_take]
    congr 1
    omega
  · exact Nat.le_of_eq (Nat.zero_add _)
theorem m_Clone0 (A : Option Addr) (c : Nat) (q : Nat → Option (Nat × Nat)) : MDoes Try.prog 56 [.raw (.slice A 0 c)] (gl q [] []) (.row 5 0 0 0) (gl q [] [(5, ⟨0, some (.row 5 1 [])⟩)]) := by
  refine MDoes.of_body Try.func56 rfl (by kernel_rfl) rfl rfl ?_
  cases A with
  | none =>
    skip; (repeat (first | with_reducible refine AW.seq ?_ | with_reducible refine AW.skip ?_ | with_reducible refine AW.block ?_ | ((with_reducible refine RG.id ?_); refine RG.nil ⟨?_, ?_⟩; · kernel_rfl) | ((with_reducible refine RG.id ?_); refine RG.nil ?_) | ((with_reducible refine AW.text ?_); refine RG.runG ty_ok 0 400 rfl ?_) | ((with_reducible refine AW.draws mixed_ok ?_); refine RG.runG ty_ok 0 400 rfl ?_))); refine AW.condT rfl ?_; skip; (repeat (first | with_reducible refine AW.seq ?_ | with_reducible refine AW.skip ?_ | with_reducible refine AW.block ?_ | ((with_reducible refine RG.id ?_); refine RG.nil ⟨?_, ?_⟩; · kernel_rfl) | ((with_reducible refine RG.id ?_); refine RG.nil ?_) | ((with_reducible refine AW.text ?_); refine RG.runG ty_ok 0 400 rfl ?_) | ((with_reducible refine AW.draws mixed_ok ?_); refine RG.runG ty_ok 0 400 rfl ?_)))
    refine AW.nilRow 5 0 5 1 [(2, .row 5 0 0 0)] [(5, ⟨0, some (.row 5 1 [])⟩)] ⟨.nil rfl, trivial⟩ ⟨.old (.row rfl rfl), trivial⟩ ?_
    refine AW.ret (retM1 rfl (Rm.rowIs rfl rfl rfl rfl) ⟨.row rfl rfl, trivial⟩)
  | some A =>
    skip; (repeat (first | with_reducible refine AW.seq ?_ | with_reducible refine AW.skip ?_ | with_reducible refine AW.block ?_ | ((with_reducible refine RG.id ?_); refine RG.nil ⟨?_, ?_⟩; · kernel_rfl) | ((with_reducible refine RG.id ?_); refine RG.nil ?_) | ((with_reducible refine AW.text ?_); refine RG.runG ty_ok 0 400 rfl ?_) | ((with_reducible refine AW.draws mixed_ok ?_); refine RG.runG ty_ok 0 400 rfl ?_))); refine AW.condF rfl ?_; skip; (repeat (first | with_reducible refine AW.seq ?_ | with_reducible refine AW.skip ?_ | with_reducible refine AW.block ?_ | ((with_reducible refine RG.id ?_); refine RG.nil ⟨?_, ?_⟩; · kernel_rfl) | ((with_reducible refine RG.id ?_); refine RG.nil ?_) | ((with_reducible refine AW.text ?_); refine RG.runG ty_ok 0 400 rfl ?_) | ((with_reducible refine AW.draws mixed_ok ?_); refine RG.runG ty_ok 0 400 rfl ?_)))
    refine RG.opS rfl (op_build0 (id := 5) rfl (tab_ok ty_ok rfl) rfl (tab_ok ty_ok rfl)) rfl ?_
    refine RG.runG ty_ok 0 400 rfl ?_; (repeat (first | with_reducible refine AW.seq ?_ | with_reducible refine AW.skip ?_ | with_reducible refine AW.block ?_ | ((with_reducible refine RG.id ?_); refine RG.nil ⟨?_, ?_⟩; · kernel_rfl) | ((with_reducible refine RG.id ?_); refine RG.nil ?_) | ((with_reducible refine AW.text ?_); refine RG.runG ty_ok 0 400 rfl ?_) | ((with_reducible refine AW.draws mixed_ok ?_); refine RG.runG ty_ok 0 400 rfl ?_)))
    refine RG.opS rfl (op_append0 (id := 5) (els := []) rfl rfl rfl rfl (tab_ok ty_ok rfl) rfl (tab_ok ty_ok rfl) rfl (.inl ⟨_, rfl, rfl⟩) rfl (by decide) (by decide)) rfl ?_
    refine RG.runG ty_ok 0 400 rfl ?_; (repeat (first | with_reducible refine AW.seq ?_ | with_reducible refine AW.skip ?_ | with_reducible refine AW.block ?_ | ((with_reducible refine RG.id ?_); refine RG.nil ⟨?_, ?_⟩; · kernel_rfl) | ((with_reducible refine RG.id ?_); refine RG.nil ?_) | ((with_reducible refine AW.text ?_); refine RG.runG ty_ok 0 400 rfl ?_) | ((with_reducible refine AW.draws mixed_ok ?_); refine RG.runG ty_ok 0 400 rfl ?_)))
    refine AW.ret (retM1 rfl (Rm.rowIs rfl rfl rfl rfl) ⟨.row rfl rfl, trivial⟩)
theorem byteEls_one (l : List UInt8) : ∀ cs ∈ byteEls l, cs.length = 1 := fun cs h => by
  obtain ⟨c, _, rfl⟩ := List.mem_map.1 h
  rfl
theorem m_Clone1 (x : UInt8) (l : List UInt8) (hl : (x :: l).length ≤ 140737488355328) (q : Nat → Option (Nat × Nat)) : MDoes Try.prog 56 [.sl (byteEls (x :: l))] (gl q [] []) (.row 5 0 0 (byteEls (x :: l)).length) (gl q [] [(5, ⟨0, some (.row 5 1 (byteEls (x :: l)))⟩)]) := by
  refine MDoes.of_body Try.func56 rfl (by kernel_rfl) rfl rfl ?_
  skip; (repeat (first | with_reducible refine AW.seq ?_ | with_reducible refine AW.skip ?_ | with_reducible refine AW.block ?_ | ((with_reducible refine RG.id ?_); refine RG.nil ⟨?_, ?_⟩; · kernel_rfl) | ((with_reducible refine RG.id ?_); refine RG.nil ?_) | ((with_reducible refine AW.text ?_); refine RG.runG ty_ok 0 400 rfl ?_) | ((with_reducible refine AW.draws mixed_ok ?_); refine RG.runG ty_ok 0 400 rfl ?_))); refine AW.condF rfl ?_; skip; (repeat (first | with_reducible refine AW.seq ?_ | with_reducible refine AW.skip ?_ | with_reducible refine AW.block ?_ | ((with_reducible refine RG.id ?_); refine RG.nil ⟨?_, ?_⟩; · kernel_rfl) | ((with_reducible refine RG.id ?_); refine RG.nil ?_) | ((with_reducible refine AW.text ?_); refine RG.runG ty_ok 0 400 rfl ?_) | ((with_reducible refine AW.draws mixed_ok ?_); refine RG.runG ty_ok 0 400 rfl ?_)))
  refine RG.opS rfl (op_build0 (id := 5) rfl (tab_ok ty_ok rfl) rfl (tab_ok ty_ok rfl)) rfl ?_
  refine RG.runG ty_ok 0 400 rfl ?_; (repeat (first | with_reducible refine AW.seq ?_ | with_reducible refine AW.skip ?_ | with_reducible refine AW.block ?_ | ((with_reducible refine RG.id ?_); refine RG.nil ⟨?_, ?_⟩; · kernel_rfl) | ((with_reducible refine RG.id ?_); refine RG.nil ?_) | ((with_reducible refine AW.text ?_); refine RG.runG ty_ok 0 400 rfl ?_) | ((with_reducible refine AW.draws mixed_ok ?_); refine RG.runG ty_ok 0 400 rfl ?_)))
  refine RG.opS rfl (op_appendS (id := 5) (els := []) rfl rfl rfl rfl (tab_ok ty_ok rfl) rfl (tab_ok ty_ok rfl) rfl (.inl ⟨_, rfl, rfl⟩) rfl (byteEls_one _) ?_ ?_ (List.nil_append _) rfl) rfl ?_
  · rw [byteEls_len]
    show (0 + (x :: l).length) * 1 ≤ _
    omega
  · rw [byteEls_len]
    simp only [List.length_nil]
    omega
  refine RG.runG ty_ok 0 400 rfl ?_; (repeat (first | with_reducible refine AW.seq ?_ | with_reducible refine AW.skip ?_ | with_reducible refine AW.block ?_ | ((with_reducible refine RG.id ?_); refine RG.nil ⟨?_, ?_⟩; · kernel_rfl) | ((with_reducible refine RG.id ?_); refine RG.nil ?_) | ((with_reducible refine AW.text ?_); refine RG.runG ty_ok 0 400 rfl ?_) | ((with_reducible refine AW.draws mixed_ok ?_); refine RG.runG ty_ok 0 400 rfl ?_)))
  refine AW.ret (retM1 rfl (Rm.rowIs rfl rfl rfl rfl) ⟨.row rfl rfl, trivial⟩)
theorem m_Clone (l : List UInt8) (hl : l.length ≤ 140737488355328) (q : Nat → Option (Nat × Nat)) : MDoes Try.prog 56 [.sl (byteEls l)] (gl q [] []) (.row 5 0 0 (byteEls l).length) (gl q [] [(5, ⟨0, some (.row 5 1 (byteEls l))⟩)]) := by
  cases l with
  | nil => exact MDoes.raw0 fun A c => m_Clone0 A c q
  | cons x l => exact m_Clone1 x l hl q
/-! ### A record of the journal -/
def recH (n : Nat) : List UInt8 := [UInt8.ofNat (n / 16777216), UInt8.ofNat (n / 65536), UInt8.ofNat (n / 256), UInt8.ofNat n]
def recE (e : En) : List UInt8 := recH (sealW e.words).length ++ sealW e.words
theorem wkBF_of {l : List Nat} {s : St} {σ' : Sto} : ∀ {b : List (Nat × SB)}, WkB s σ' b → WkBF l s σ' b
  | [], _ => trivial
  | _ :: _, h => ⟨.old h.1, wkBF_of h.2⟩
theorem m_live_up (b : Bk) (hd : b.dead = false) (q : Nat → Option (Nat × Nat)) : MDoes Try.prog 53 [.own 0 0 0] (gl q [0] (bkB b)) (.i .i64 0) (gl q [0] (bkB b)) := by
  have := m_live b q
  rw [hd] at this
  exact this
theorem m_live_down (b : Bk) (hd : b.dead = true) (q : Nat → Option (Nat × Nat)) : MDoes Try.prog 53 [.own 0 0 0] (gl q [0] (bkB b)) (.i .i64 9) (gl q [0] (bkB b)) := by
  have := m_live b q
  rw [hd] at this
  exact this
theorem m_Add_down (b : Bk) (e : En) (hd : b.dead = true) (q : Nat → Option (Nat × Nat)) : MDoes Try.prog 27 [.own 0 0 0, .agg (enC e)] (gl q [0] (bkB b)) (.i .i64 9) (gl q [0] (bkB b)) := by
  refine MDoes.of_body Try.func27 rfl (by kernel_rfl) rfl rfl ?_
  skip; (repeat (first | with_reducible refine AW.seq ?_ | with_reducible refine AW.skip ?_ | with_reducible refine AW.block ?_ | ((with_reducible refine RG.id ?_); refine RG.nil ⟨?_, ?_⟩; · kernel_rfl) | ((with_reducible refine RG.id ?_); refine RG.nil ?_) | ((with_reducible refine AW.text ?_); refine RG.runG ty_ok 0 400 rfl ?_) | ((with_reducible refine AW.draws mixed_ok ?_); refine RG.runG ty_ok 0 400 rfl ?_)))
  refine RG.ownN [(0, 0), (1, 1)] [(0, 0), (1, 1)] (fun q => m_live_down b hd q) rfl rfl rfl rfl rfl rfl rfl rfl rfl rfl ?_
  refine RG.runG ty_ok 0 400 rfl ?_; (repeat (first | with_reducible refine AW.seq ?_ | with_reducible refine AW.skip ?_ | with_reducible refine AW.block ?_ | ((with_reducible refine RG.id ?_); refine RG.nil ⟨?_, ?_⟩; · kernel_rfl) | ((with_reducible refine RG.id ?_); refine RG.nil ?_) | ((with_reducible refine AW.text ?_); refine RG.runG ty_ok 0 400 rfl ?_) | ((with_reducible refine AW.draws mixed_ok ?_); refine RG.runG ty_ok 0 400 rfl ?_))); refine AW.condT rfl ?_; skip; (repeat (first | with_reducible refine AW.seq ?_ | with_reducible refine AW.skip ?_ | with_reducible refine AW.block ?_ | ((with_reducible refine RG.id ?_); refine RG.nil ⟨?_, ?_⟩; · kernel_rfl) | ((with_reducible refine RG.id ?_); refine RG.nil ?_) | ((with_reducible refine AW.text ?_); refine RG.runG ty_ok 0 400 rfl ?_) | ((with_reducible refine AW.draws mixed_ok ?_); refine RG.runG ty_ok 0 400 rfl ?_)))
  refine AW.ret (retM1 rfl (Rm.is rfl rfl) (bk_end rfl rfl rfl rfl rfl rfl rfl rfl rfl))
theorem m_Add_long (b : Bk) (e : En) (hd : b.dead = false) (hf : e.cfg.fit = false) (q : Nat → Option (Nat × Nat)) : MDoes Try.prog 27 [.own 0 0 0, .agg (enC e)] (gl q [0] (bkB b)) (.i .i64 4) (gl q [0] (bkB b)) := by
  refine MDoes.of_body Try.func27 rfl (by kernel_rfl) rfl rfl ?_
  skip; (repeat (first | with_reducible refine AW.seq ?_ | with_reducible refine AW.skip ?_ | with_reducible refine AW.block ?_ | ((with_reducible refine RG.id ?_); refine RG.nil ⟨?_, ?_⟩; · kernel_rfl) | ((with_reducible refine RG.id ?_); refine RG.nil ?_) | ((with_reducible refine AW.text ?_); refine RG.runG ty_ok 0 400 rfl ?_) | ((with_reducible refine AW.draws mixed_ok ?_); refine RG.runG ty_ok 0 400 rfl ?_)))
  refine RG.ownN [(0, 0), (1, 1)] [(0, 0), (1, 1)] (fun q => m_live_up b hd q) rfl rfl rfl rfl rfl rfl rfl rfl rfl rfl ?_
  refine RG.runG ty_ok 0 400 rfl ?_; (repeat (first | with_reducible refine AW.seq ?_ | with_reducible refine AW.skip ?_ | with_reducible refine AW.block ?_ | ((with_reducible refine RG.id ?_); refine RG.nil ⟨?_, ?_⟩; · kernel_rfl) | ((with_reducible refine RG.id ?_); refine RG.nil ?_) | ((with_reducible refine AW.text ?_); refine RG.runG ty_ok 0 400 rfl ?_) | ((with_reducible refine AW.draws mixed_ok ?_); refine RG.runG ty_ok 0 400 rfl ?_))); refine AW.condF rfl ?_; skip; (repeat (first | with_reducible refine AW.seq ?_ | with_reducible refine AW.skip ?_ | with_reducible refine AW.block ?_ | ((with_reducible refine RG.id ?_); refine RG.nil ⟨?_, ?_⟩; · kernel_rfl) | ((with_reducible refine RG.id ?_); refine RG.nil ?_) | ((with_reducible refine AW.text ?_); refine RG.runG ty_ok 0 400 rfl ?_) | ((with_reducible refine AW.draws mixed_ok ?_); refine RG.runG ty_ok 0 400 rfl ?_)))
  refine RG.callS rfl rfl rfl rfl rfl (d_Entry_no e hf) rfl rfl ?_
  refine RG.runG ty_ok 0 400 rfl ?_; (repeat (first | with_reducible refine AW.seq ?_ | with_reducible refine AW.skip ?_ | with_reducible refine AW.block ?_ | ((with_reducible refine RG.id ?_); refine RG.nil ⟨?_, ?_⟩; · kernel_rfl) | ((with_reducible refine RG.id ?_); refine RG.nil ?_) | ((with_reducible refine AW.text ?_); refine RG.runG ty_ok 0 400 rfl ?_) | ((with_reducible refine AW.draws mixed_ok ?_); refine RG.runG ty_ok 0 400 rfl ?_))); refine AW.condT rfl ?_; skip; (repeat (first | with_reducible refine AW.seq ?_ | with_reducible refine AW.skip ?_ | with_reducible refine AW.block ?_ | ((with_reducible refine RG.id ?_); refine RG.nil ⟨?_, ?_⟩; · kernel_rfl) | ((with_reducible refine RG.id ?_); refine RG.nil ?_) | ((with_reducible refine AW.text ?_); refine RG.runG ty_ok 0 400 rfl ?_) | ((with_reducible refine AW.draws mixed_ok ?_); refine RG.runG ty_ok 0 400 rfl ?_)))
  refine AW.ret (retM1 rfl (Rm.is rfl rfl) (bk_end rfl rfl rfl rfl rfl rfl rfl rfl rfl))
def Bk.at_ (b : Bk) (l : List UInt8) (k : Nat) : Bk := { b with all := b.all ++ l.take k, fuse := if b.fuse < 0 then -1 else b.fuse - k }
def Bk.added (b : Bk) (l : List UInt8) : Bk := { all := b.all ++ l, sure := b.all.length + l.length, fuse := if b.fuse < 0 then -1 else b.fuse - l.length - 1, dead := b.dead }
def Bk.cut (b : Bk) (l : List UInt8) : Bk := { all := b.all ++ l.take b.fuse.toNat, sure := b.sure, fuse := 0, dead := true }
theorem byteEls_append (l m : List UInt8) : byteEls l ++ byteEls m = byteEls (l ++ m) := (List.map_append ..).symm
theorem cv_u8 (n : Nat) : cvI .u8 (n : Int) = .y (UInt8.ofNat n) := by
  show AV.y (ofI8 n) = _
  congr 1
  apply UInt8.toNat_inj.1
  have h1 := ofI8_nat n
  rw [IntKind.wrap_u8] at h1
  rw [UInt8.toNat_ofNat']
  omega
theorem fdiv_nat (n k : Nat) : ((n : Nat) : Int).fdiv ((k : Nat) : Int) = ((n / k : Nat) : Int) := by
  rw [Int.fdiv_eq_ediv_of_nonneg _ (by omega)]
  rfl
theorem at_zero {b : Bk} {l : List UInt8} (h : -1 ≤ b.fuse) : b.at_ l 0 = b := by
  cases b with
  | mk a su f d =>
    simp only [Bk.at_, Bk.mk.injEq, List.take_zero, List.append_nil, true_and, and_true]
    simp only at h
    split <;> omega
theorem m_Add_ok (b : Bk) (e : En) (hd : b.dead = false) (hf : e.cfg.fit = true) (hn : (sealW e.words).length < 4294967296) (hb : b.all.length ≤ 100000000000000) (h1 : -1 ≤ b.fuse ∧ b.fuse ≤ 9223372036854775807) (h : b.fuse < 0 ∨ ((recE e).length : Int) < b.fuse) (q : Nat → Option (Nat × Nat)) : MDoes Try.prog 27 [.own 0 0 0, .agg (enC e)] (gl q [0] (bkB b)) (.i .i64 0) (gl q [0] (bkB (b.added (recE e)))) := by
  refine MDoes.of_body Try.func27 rfl (by kernel_rfl) rfl rfl ?_
  skip; (repeat (first | with_reducible refine AW.seq ?_ | with_reducible refine AW.skip ?_ | with_reducible refine AW.block ?_ | ((with_reducible refine RG.id ?_); refine RG.nil ⟨?_, ?_⟩; · kernel_rfl) | ((with_reducible refine RG.id ?_); refine RG.nil ?_) | ((with_reducible refine AW.text ?_); refine RG.runG ty_ok 0 400 rfl ?_) | ((with_reducible refine AW.draws mixed_ok ?_); refine RG.runG ty_ok 0 400 rfl ?_)))
  refine RG.ownN [(0, 0), (1, 1)] [(0, 0), (1, 1)] (fun q => m_live_up b hd q) rfl rfl rfl rfl rfl rfl rfl rfl rfl rfl ?_
  refine RG.runG ty_ok 0 400 rfl ?_; (repeat (first | with_reducible refine AW.seq ?_ | with_reducible refine AW.skip ?_ | with_reducible refine AW.block ?_ | ((with_reducible refine RG.id ?_); refine RG.nil ⟨?_, ?_⟩; · kernel_rfl) | ((with_reducible refine RG.id ?_); refine RG.nil ?_) | ((with_reducible refine AW.text ?_); refine RG.runG ty_ok 0 400 rfl ?_) | ((with_reducible refine AW.draws mixed_ok ?_); refine RG.runG ty_ok 0 400 rfl ?_))); refine AW.condF rfl ?_; skip; (repeat (first | with_reducible refine AW.seq ?_ | with_reducible refine AW.skip ?_ | with_reducible refine AW.block ?_ | ((with_reducible refine RG.id ?_); refine RG.nil ⟨?_, ?_⟩; · kernel_rfl) | ((with_reducible refine RG.id ?_); refine RG.nil ?_) | ((with_reducible refine AW.text ?_); refine RG.runG ty_ok 0 400 rfl ?_) | ((with_reducible refine AW.draws mixed_ok ?_); refine RG.runG ty_ok 0 400 rfl ?_)))
  refine RG.callMS rfl rfl rfl rfl rfl rfl (d_Entry_yes e hf) rfl ?_
  refine RG.runG ty_ok 0 400 rfl ?_; (repeat (first | with_reducible refine AW.seq ?_ | with_reducible refine AW.skip ?_ | with_reducible refine AW.block ?_ | ((with_reducible refine RG.id ?_); refine RG.nil ⟨?_, ?_⟩; · kernel_rfl) | ((with_reducible refine RG.id ?_); refine RG.nil ?_) | ((with_reducible refine AW.text ?_); refine RG.runG ty_ok 0 400 rfl ?_) | ((with_reducible refine AW.draws mixed_ok ?_); refine RG.runG ty_ok 0 400 rfl ?_))); refine AW.condF rfl ?_; skip; (repeat (first | with_reducible refine AW.seq ?_ | with_reducible refine AW.skip ?_ | with_reducible refine AW.block ?_ | ((with_reducible refine RG.id ?_); refine RG.nil ⟨?_, ?_⟩; · kernel_rfl) | ((with_reducible refine RG.id ?_); refine RG.nil ?_) | with_reducible refine AW.text ?_ | with_reducible refine AW.draws mixed_ok ?_))
  generalize hN : (sealW e.words).length = n at hn
  refine RG.runO ty_ok 0 [(8, .i .i64 n)] 400 rfl ⟨congrArg (AV.i .i64) (by rw [byteEls_len, hN]), trivial⟩ ?_
  skip; (repeat (first | with_reducible refine AW.seq ?_ | with_reducible refine AW.skip ?_ | with_reducible refine AW.block ?_ | ((with_reducible refine RG.id ?_); refine RG.nil ⟨?_, ?_⟩; · kernel_rfl) | ((with_reducible refine RG.id ?_); refine RG.nil ?_) | with_reducible refine AW.text ?_ | with_reducible refine AW.draws mixed_ok ?_))
  refine RG.runO ty_ok 0 [(29, .y (UInt8.ofNat (n / 16777216))), (32, .y (UInt8.ofNat (n / 65536))), (35, .y (UInt8.ofNat (n / 256))), (37, .y (UInt8.ofNat n))] 400 rfl ⟨cv_u8 n, (congrArg (cvI .u8) (fdiv_nat n 256)).trans (cv_u8 _), (congrArg (cvI .u8) (fdiv_nat n 65536)).trans (cv_u8 _), (congrArg (cvI .u8) (fdiv_nat n 16777216)).trans (cv_u8 _), trivial⟩ ?_
  have hrec : recH n ++ sealW e.words = recE e := by rw [recE, hN]
  have hlen : (recE e).length = n + 4 := by rw [← hrec, List.length_append, hN]; exact Nat.add_comm ..
  refine RG.opS rfl (op_appendS (id := 38) (els := byteEls (recH n)) (r := byteEls (recE e)) rfl rfl rfl rfl (tab_ok ty_ok rfl) rfl (tab_ok ty_ok rfl) rfl (.inl ⟨_, rfl, rfl⟩) rfl (byteEls_one _) ?_ ?_ ?_ rfl) rfl ?_
  · rw [byteEls_len, byteEls_len, hN]
    show (4 + n) * 1 ≤ _
    omega
  · rw [byteEls_len, byteEls_len, hN]
    show 4 + n ≤ _
    omega
  · rw [byteEls_append, hrec]
  refine RG.runG ty_ok 0 400 rfl ?_; (repeat (first | with_reducible refine AW.seq ?_ | with_reducible refine AW.skip ?_ | with_reducible refine AW.block ?_ | ((with_reducible refine RG.id ?_); refine RG.nil ⟨?_, ?_⟩; · kernel_rfl) | ((with_reducible refine RG.id ?_); refine RG.nil ?_) | ((with_reducible refine AW.text ?_); refine RG.runG ty_ok 0 400 rfl ?_) | ((with_reducible refine AW.draws mixed_ok ?_); refine RG.runG ty_ok 0 400 rfl ?_)))
  refine AW.freeze [38] [(0, .own 0 0 0), (41, .sl (byteEls (recE e))), (42, .i .i64 (recE e).length), (43, .i .i64 (0 : Nat))] (gl q [0] (bkB b)) ⟨.rn (Rn.ownIs rfl rfl rfl), .fzA rfl rfl ?_, .is (congrArg (AV.i .i64) (congrArg Int.ofNat (byteEls_len _))) rfl, .is rfl rfl, trivial⟩ (wkBF_of (bk_end rfl rfl rfl rfl rfl rfl rfl rfl rfl)) rfl ?_
  · show AV.sl (((byteEls (recE e)).drop 0).take (byteEls (recE e)).length) = _
    rw [List.drop_zero, List.take_length]
  refine AW.loopL (ι := Nat) (fun k => [(0, .own 0 0 0), (41, .sl (byteEls (recE e))), (42, .i .i64 (recE e).length), (43, .i .i64 (k : Nat))]) (fun k => gl q [0] (bkB (b.at_ (recE e) k))) (fun k => k ≤ (recE e).length) (fun k => (recE e).length - k) 0 (Nat.zero_le _) ⟨Rn.ownIs rfl rfl rfl, Rn.is rfl rfl, Rn.is rfl rfl, Rn.is rfl rfl, trivial⟩ ?_ fun k hk => ?_
  · rw [at_zero h1.1]
    exact bk_end rfl rfl rfl rfl rfl rfl rfl rfl rfl
  have hk1 : (b.at_ (recE e) k).all.length = b.all.length + k := by
    show (b.all ++ (recE e).take k).length = _
    rw [List.length_append, List.length_take]
    omega
  skip; (repeat (first | with_reducible refine AW.seq ?_ | with_reducible refine AW.skip ?_ | with_reducible refine AW.block ?_ | ((with_reducible refine RG.id ?_); refine RG.nil ⟨?_, ?_⟩; · kernel_rfl) | ((with_reducible refine RG.id ?_); refine RG.nil ?_) | ((with_reducible refine AW.text ?_); refine RG.runG ty_ok 0 400 rfl ?_) | ((with_reducible refine AW.draws mixed_ok ?_); refine RG.runG ty_ok 0 400 rfl ?_)))
  refine AW.cond rfl (fun hlt => ?_) (fun hlt => ?_)
  · skip
    skip; (repeat (first | with_reducible refine AW.seq ?_ | with_reducible refine AW.skip ?_ | with_reducible refine AW.block ?_ | ((with_reducible refine RG.id ?_); refine RG.nil ⟨?_, ?_⟩; · kernel_rfl) | ((with_reducible refine RG.id ?_); refine RG.nil ?_) | ((with_reducible refine AW.text ?_); refine RG.runG ty_ok 0 400 rfl ?_) | ((with_reducible refine AW.draws mixed_ok ?_); refine RG.runG ty_ok 0 400 rfl ?_)))
    have hlt : k < (recE e).length := by simpa using hlt
    refine RG.opS rfl (op_index rfl (tab_ok ty_ok rfl) rfl (tab_ok ty_ok rfl) rfl rfl (show (byteEls (recE e))[k]? = some [.y (recE e)[k]] by simp [byteEls, hlt]) rfl) rfl ?_
    refine RG.runG ty_ok 0 400 rfl ?_; (repeat (first | with_reducible refine AW.seq ?_ | with_reducible refine AW.skip ?_ | with_reducible refine AW.block ?_ | ((with_reducible refine RG.id ?_); refine RG.nil ⟨?_, ?_⟩; · kernel_rfl) | ((with_reducible refine RG.id ?_); refine RG.nil ?_) | ((with_reducible refine AW.text ?_); refine RG.runG ty_ok 0 400 rfl ?_) | ((with_reducible refine AW.draws mixed_ok ?_); refine RG.runG ty_ok 0 400 rfl ?_)))
    have hf0 : (b.at_ (recE e) k).fuse = if b.fuse < 0 then -1 else b.fuse - k := rfl
    refine RG.ownN [(0, 0), (1, 1)] [(0, 0), (1, 1)] (fun q => m_burn_ok (b.at_ (recE e) k) (by rw [hf0]; split <;> omega) (by rw [hf0]; split <;> omega) q) rfl rfl rfl rfl rfl rfl rfl rfl rfl rfl ?_
    refine RG.runG ty_ok 0 400 rfl ?_; (repeat (first | with_reducible refine AW.seq ?_ | with_reducible refine AW.skip ?_ | with_reducible refine AW.block ?_ | ((with_reducible refine RG.id ?_); refine RG.nil ⟨?_, ?_⟩; · kernel_rfl) | ((with_reducible refine RG.id ?_); refine RG.nil ?_) | ((with_reducible refine AW.text ?_); refine RG.runG ty_ok 0 400 rfl ?_) | ((with_reducible refine AW.draws mixed_ok ?_); refine RG.runG ty_ok 0 400 rfl ?_))); refine AW.condF rfl ?_; skip; (repeat (first | with_reducible refine AW.seq ?_ | with_reducible refine AW.skip ?_ | with_reducible refine AW.block ?_ | ((with_reducible refine RG.id ?_); refine RG.nil ⟨?_, ?_⟩; · kernel_rfl) | ((with_reducible refine RG.id ?_); refine RG.nil ?_) | ((with_reducible refine AW.text ?_); refine RG.runG ty_ok 0 400 rfl ?_) | ((with_reducible refine AW.draws mixed_ok ?_); refine RG.runG ty_ok 0 400 rfl ?_)))
    refine RG.opS rfl (op_appendR (id := 1) (id2 := 56) (els := byteEls (b.at_ (recE e) k).all) (els2 := byteEls [(recE e)[k]]) (r := byteEls (b.at_ (recE e) (k + 1)).all) rfl rfl rfl rfl (tab_ok ty_ok rfl) rfl (tab_ok ty_ok rfl) rfl (.inl ⟨_, rfl, rfl⟩) rfl rfl ?_ ?_ ?_ rfl) rfl ?_
    · rw [byteEls_len, byteEls_len, hk1]
      show (b.all.length + k + 1) * 1 ≤ _
      omega
    · rw [byteEls_len, byteEls_len, hk1]
      show b.all.length + k + 1 ≤ _
      omega
    · rw [byteEls_append]
      show byteEls ((b.all ++ (recE e).take k) ++ [(recE e)[k]]) = byteEls (b.all ++ (recE e).take (k + 1))
      rw [List.take_succ_eq_append_getElem hlt, List.append_assoc]
    refine RG.runG ty_ok 0 400 rfl ?_; (repeat (first | with_reducible refine AW.seq ?_ | with_reducible refine AW.skip ?_ | with_reducible refine AW.block ?_ | ((with_reducible refine RG.id ?_); refine RG.nil ⟨?_, ?_⟩; · kernel_rfl) | ((with_reducible refine RG.id ?_); refine RG.nil ?_) | ((with_reducible refine AW.text ?_); refine RG.runG ty_ok 0 400 rfl ?_) | ((with_reducible refine AW.draws mixed_ok ?_); refine RG.runG ty_ok 0 400 rfl ?_)))
    refine ⟨k + 1, ⟨by omega, by omega⟩, ⟨Rn.ownIs rfl rfl rfl, Rn.is rfl rfl, Rn.is rfl rfl, .is (i64_next hlt (by omega)) rfl, trivial⟩, bk_end rfl rfl rfl rfl rfl rfl rfl ?_ rfl⟩
    show max ((if b.fuse < 0 then -1 else b.fuse - k) - 1) (-1) = if b.fuse < 0 then -1 else b.fuse - ((k + 1 : Nat) : Int)
    split <;> omega
  · skip
    skip; (repeat (first | with_reducible refine AW.seq ?_ | with_reducible refine AW.skip ?_ | with_reducible refine AW.block ?_ | ((with_reducible refine RG.id ?_); refine RG.nil ⟨?_, ?_⟩; · kernel_rfl) | ((with_reducible refine RG.id ?_); refine RG.nil ?_) | ((with_reducible refine AW.text ?_); refine RG.runG ty_ok 0 400 rfl ?_) | ((with_reducible refine AW.draws mixed_ok ?_); refine RG.runG ty_ok 0 400 rfl ?_)))
    refine AW.exit ?_
    refine Eq.mpr (if_pos rfl) ?_
    skip; (repeat (first | with_reducible refine AW.seq ?_ | with_reducible refine AW.skip ?_ | with_reducible refine AW.block ?_ | ((with_reducible refine RG.id ?_); refine RG.nil ⟨?_, ?_⟩; · kernel_rfl) | ((with_reducible refine RG.id ?_); refine RG.nil ?_) | ((with_reducible refine AW.text ?_); refine RG.runG ty_ok 0 400 rfl ?_) | ((with_reducible refine AW.draws mixed_ok ?_); refine RG.runG ty_ok 0 400 rfl ?_)))
    have hlt : ¬ k < (recE e).length := by simpa using hlt
    obtain rfl : k = (recE e).length := by omega
    have hf0 : (b.at_ (recE e) (recE e).length).fuse = if b.fuse < 0 then -1 else b.fuse - (recE e).length := rfl
    have ha : (b.at_ (recE e) (recE e).length).all = (b.added (recE e)).all := by
      show b.all ++ (recE e).take (recE e).length = b.all ++ recE e
      rw [List.take_length]
    refine RG.ownN [(0, 0), (1, 1)] [(0, 0), (1, 1)] (fun q => m_burn_ok (b.at_ (recE e) (recE e).length) (by rw [hf0]; split <;> omega) (by rw [hf0]; split <;> omega) q) rfl rfl rfl rfl rfl rfl rfl rfl rfl rfl ?_
    refine RG.runG ty_ok 0 400 rfl ?_; (repeat (first | with_reducible refine AW.seq ?_ | with_reducible refine AW.skip ?_ | with_reducible refine AW.block ?_ | ((with_reducible refine RG.id ?_); refine RG.nil ⟨?_, ?_⟩; · kernel_rfl) | ((with_reducible refine RG.id ?_); refine RG.nil ?_) | ((with_reducible refine AW.text ?_); refine RG.runG ty_ok 0 400 rfl ?_) | ((with_reducible refine AW.draws mixed_ok ?_); refine RG.runG ty_ok 0 400 rfl ?_))); refine AW.condF rfl ?_; skip; (repeat (first | with_reducible refine AW.seq ?_ | with_reducible refine AW.skip ?_ | with_reducible refine AW.block ?_ | ((with_reducible refine RG.id ?_); refine RG.nil ⟨?_, ?_⟩; · kernel_rfl) | ((with_reducible refine RG.id ?_); refine RG.nil ?_) | ((with_reducible refine AW.text ?_); refine RG.runG ty_ok 0 400 rfl ?_) | ((with_reducible refine AW.draws mixed_ok ?_); refine RG.runG ty_ok 0 400 rfl ?_)))
    refine AW.ret (retM1 rfl (Rm.is rfl rfl) (bk_end rfl rfl rfl rfl (congrArg (fun l => (byteEls l).length) ha) (congrArg byteEls ha) ?_ ?_ rfl))
    · show (((byteEls (b.at_ (recE e) (recE e).length).all).length : Nat) : Int) = ((b.all.length + (recE e).length : Nat) : Int)
      rw [byteEls_len, hk1]
    · show max ((if b.fuse < 0 then -1 else b.fuse - (recE e).length) - 1) (-1) = if b.fuse < 0 then -1 else b.fuse - (recE e).length - 1
      split <;> omega
theorem m_Add_cut (b : Bk) (e : En) (hd : b.dead = false) (hf : e.cfg.fit = true) (hn : (sealW e.words).length < 4294967296) (hb : b.all.length ≤ 100000000000000) (h1 : -1 ≤ b.fuse ∧ b.fuse ≤ 9223372036854775807) (h : 0 ≤ b.fuse ∧ b.fuse ≤ ((recE e).length : Int)) (q : Nat → Option (Nat × Nat)) : MDoes Try.prog 27 [.own 0 0 0, .agg (enC e)] (gl q [0] (bkB b)) (.i .i64 9) (gl q [0] (bkB (b.cut (recE e)))) := by
  refine MDoes.of_body Try.func27 rfl (by kernel_rfl) rfl rfl ?_
  skip; (repeat (first | with_reducible refine AW.seq ?_ | with_reducible refine AW.skip ?_ | with_reducible refine AW.block ?_ | ((with_reducible refine RG.id ?_); refine RG.nil ⟨?_, ?_⟩; · kernel_rfl) | ((with_reducible refine RG.id ?_); refine RG.nil ?_) | ((with_reducible refine AW.text ?_); refine RG.runG ty_ok 0 400 rfl ?_) | ((with_reducible refine AW.draws mixed_ok ?_); refine RG.runG ty_ok 0 400 rfl ?_)))
  refine RG.ownN [(0, 0), (1, 1)] [(0, 0), (1, 1)] (fun q => m_live_up b hd q) rfl rfl rfl rfl rfl rfl rfl rfl rfl rfl ?_
  refine RG.runG ty_ok 0 400 rfl ?_; (repeat (first | with_reducible refine AW.seq ?_ | with_reducible refine AW.skip ?_ | with_reducible refine AW.block ?_ | ((with_reducible refine RG.id ?_); refine RG.nil ⟨?_, ?_⟩; · kernel_rfl) | ((with_reducible refine RG.id ?_); refine RG.nil ?_) | ((with_reducible refine AW.text ?_); refine RG.runG ty_ok 0 400 rfl ?_) | ((with_reducible refine AW.draws mixed_ok ?_); refine RG.runG ty_ok 0 400 rfl ?_))); refine AW.condF rfl ?_; skip; (repeat (first | with_reducible refine AW.seq ?_ | with_reducible refine AW.skip ?_ | with_reducible refine AW.block ?_ | ((with_reducible refine RG.id ?_); refine RG.nil ⟨?_, ?_⟩; · kernel_rfl) | ((with_reducible refine RG.id ?_); refine RG.nil ?_) | ((with_reducible refine AW.text ?_); refine RG.runG ty_ok 0 400 rfl ?_) | ((with_reducible refine AW.draws mixed_ok ?_); refine RG.runG ty_ok 0 400 rfl ?_)))
  refine RG.callMS rfl rfl rfl rfl rfl rfl (d_Entry_yes e hf) rfl ?_
  refine RG.runG ty_ok 0 400 rfl ?_; (repeat (first | with_reducible refine AW.seq ?_ | with_reducible refine AW.skip ?_ | with_reducible refine AW.block ?_ | ((with_reducible refine RG.id ?_); refine RG.nil ⟨?_, ?_⟩; · kernel_rfl) | ((with_reducible refine RG.id ?_); refine RG.nil ?_) | ((with_reducible refine AW.text ?_); refine RG.runG ty_ok 0 400 rfl ?_) | ((with_reducible refine AW.draws mixed_ok ?_); refine RG.runG ty_ok 0 400 rfl ?_))); refine AW.condF rfl ?_; skip; (repeat (first | with_reducible refine AW.seq ?_ | with_reducible refine AW.skip ?_ | with_reducible refine AW.block ?_ | ((with_reducible refine RG.id ?_); refine RG.nil ⟨?_, ?_⟩; · kernel_rfl) | ((with_reducible refine RG.id ?_); refine RG.nil ?_) | with_reducible refine AW.text ?_ | with_reducible refine AW.draws mixed_ok ?_))
  generalize hN : (sealW e.words).length = n at hn
  refine RG.runO ty_ok 0 [(8, .i .i64 n)] 400 rfl ⟨congrArg (AV.i .i64) (by rw [byteEls_len, hN]), trivial⟩ ?_
  skip; (repeat (first | with_reducible refine AW.seq ?_ | with_reducible refine AW.skip ?_ | with_reducible refine AW.block ?_ | ((with_reducible refine RG.id ?_); refine RG.nil ⟨?_, ?_⟩; · kernel_rfl) | ((with_reducible refine RG.id ?_); refine RG.nil ?_) | with_reducible refine AW.text ?_ | with_reducible refine AW.draws mixed_ok ?_))
  refine RG.runO ty_ok 0 [(29, .y (UInt8.ofNat (n / 16777216))), (32, .y (UInt8.ofNat (n / 65536))), (35, .y (UInt8.ofNat (n / 256))), (37, .y (UInt8.ofNat n))] 400 rfl ⟨cv_u8 n, (congrArg (cvI .u8) (fdiv_nat n 256)).trans (cv_u8 _), (congrArg (cvI .u8) (fdiv_nat n 65536)).trans (cv_u8 _), (congrArg (cvI .u8) (fdiv_nat n 16777216)).trans (cv_u8 _), trivial⟩ ?_
  have hrec : recH n ++ sealW e.words = recE e := by rw [recE, hN]
  have hlen : (recE e).length = n + 4 := by rw [← hrec, List.length_append, hN]; exact Nat.add_comm ..
  refine RG.opS rfl (op_appendS (id := 38) (els := byteEls (recH n)) (r := byteEls (recE e)) rfl rfl rfl rfl (tab_ok ty_ok rfl) rfl (tab_ok ty_ok rfl) rfl (.inl ⟨_, rfl, rfl⟩) rfl (byteEls_one _) ?_ ?_ ?_ rfl) rfl ?_
  · rw [byteEls_len, byteEls_len, hN]
    show (4 + n) * 1 ≤ _
    omega
  · rw [byteEls_len, byteEls_len, hN]
    show 4 + n ≤ _
    omega
  · rw [byteEls_append, hrec]
  refine RG.runG ty_ok 0 400 rfl ?_; (repeat (first | with_reducible refine AW.seq ?_ | with_reducible refine AW.skip ?_ | with_reducible refine AW.block ?_ | ((with_reducible refine RG.id ?_); refine RG.nil ⟨?_, ?_⟩; · kernel_rfl) | ((with_reducible refine RG.id ?_); refine RG.nil ?_) | ((with_reducible refine AW.text ?_); refine RG.runG ty_ok 0 400 rfl ?_) | ((with_reducible refine AW.draws mixed_ok ?_); refine RG.runG ty_ok 0 400 rfl ?_)))
  refine AW.freeze [38] [(0, .own 0 0 0), (41, .sl (byteEls (recE e))), (42, .i .i64 (recE e).length), (43, .i .i64 (0 : Nat))] (gl q [0] (bkB b)) ⟨.rn (Rn.ownIs rfl rfl rfl), .fzA rfl rfl ?_, .is (congrArg (AV.i .i64) (congrArg Int.ofNat (byteEls_len _))) rfl, .is rfl rfl, trivial⟩ (wkBF_of (bk_end rfl rfl rfl rfl rfl rfl rfl rfl rfl)) rfl ?_
  · show AV.sl (((byteEls (recE e)).drop 0).take (byteEls (recE e)).length) = _
    rw [List.drop_zero, List.take_length]
  refine AW.loopL (ι := Nat) (fun k => [(0, .own 0 0 0), (41, .sl (byteEls (recE e))), (42, .i .i64 (recE e).length), (43, .i .i64 (k : Nat))]) (fun k => gl q [0] (bkB (b.at_ (recE e) k))) (fun k => k ≤ (recE e).length ∧ (k : Int) ≤ b.fuse) (fun k => (recE e).length - k) 0 ⟨Nat.zero_le _, h.1⟩ ⟨Rn.ownIs rfl rfl rfl, Rn.is rfl rfl, Rn.is rfl rfl, Rn.is rfl rfl, trivial⟩ ?_ fun k ⟨hk, hkf⟩ => ?_
  · rw [at_zero h1.1]
    exact bk_end rfl rfl rfl rfl rfl rfl rfl rfl rfl
  have hk1 : (b.at_ (recE e) k).all.length = b.all.length + k := by
    show (b.all ++ (recE e).take k).length = _
    rw [List.length_append, List.length_take]
    omega
  skip; (repeat (first | with_reducible refine AW.seq ?_ | with_reducible refine AW.skip ?_ | with_reducible refine AW.block ?_ | ((with_reducible refine RG.id ?_); refine RG.nil ⟨?_, ?_⟩; · kernel_rfl) | ((with_reducible refine RG.id ?_); refine RG.nil ?_) | ((with_reducible refine AW.text ?_); refine RG.runG ty_ok 0 400 rfl ?_) | ((with_reducible refine AW.draws mixed_ok ?_); refine RG.runG ty_ok 0 400 rfl ?_)))
  refine AW.cond rfl (fun hlt => ?_) (fun hlt => ?_)
  · skip
    skip; (repeat (first | with_reducible refine AW.seq ?_ | with_reducible refine AW.skip ?_ | with_reducible refine AW.block ?_ | ((with_reducible refine RG.id ?_); refine RG.nil ⟨?_, ?_⟩; · kernel_rfl) | ((with_reducible refine RG.id ?_); refine RG.nil ?_) | ((with_reducible refine AW.text ?_); refine RG.runG ty_ok 0 400 rfl ?_) | ((with_reducible refine AW.draws mixed_ok ?_); refine RG.runG ty_ok 0 400 rfl ?_)))
    have hlt : k < (recE e).length := by simpa using hlt
    refine RG.opS rfl (op_index rfl (tab_ok ty_ok rfl) rfl (tab_ok ty_ok rfl) rfl rfl (show (byteEls (recE e))[k]? = some [.y (recE e)[k]] by simp [byteEls, hlt]) rfl) rfl ?_
    refine RG.runG ty_ok 0 400 rfl ?_; (repeat (first | with_reducible refine AW.seq ?_ | with_reducible refine AW.skip ?_ | with_reducible refine AW.block ?_ | ((with_reducible refine RG.id ?_); refine RG.nil ⟨?_, ?_⟩; · kernel_rfl) | ((with_reducible refine RG.id ?_); refine RG.nil ?_) | ((with_reducible refine AW.text ?_); refine RG.runG ty_ok 0 400 rfl ?_) | ((with_reducible refine AW.draws mixed_ok ?_); refine RG.runG ty_ok 0 400 rfl ?_)))
    have hf0 : (b.at_ (recE e) k).fuse = if b.fuse < 0 then -1 else b.fuse - k := rfl
    have cutEq : ∀ (j : Nat), (j : Int) = b.fuse → (b.at_ (recE e) j).all = (b.cut (recE e)).all := fun j hj => by
      show b.all ++ (recE e).take j = b.all ++ (recE e).take b.fuse.toNat
      rw [← hj, Int.toNat_natCast]
    by_cases hz : (k : Int) = b.fuse
    · refine RG.ownN [(0, 0), (1, 1)] [(0, 0), (1, 1)] (fun q => m_burn_cut (b.at_ (recE e) k) (by rw [hf0]; split <;> omega) q) rfl rfl rfl rfl rfl rfl rfl rfl rfl rfl ?_
      refine RG.runG ty_ok 0 400 rfl ?_; (repeat (first | with_reducible refine AW.seq ?_ | with_reducible refine AW.skip ?_ | with_reducible refine AW.block ?_ | ((with_reducible refine RG.id ?_); refine RG.nil ⟨?_, ?_⟩; · kernel_rfl) | ((with_reducible refine RG.id ?_); refine RG.nil ?_) | ((with_reducible refine AW.text ?_); refine RG.runG ty_ok 0 400 rfl ?_) | ((with_reducible refine AW.draws mixed_ok ?_); refine RG.runG ty_ok 0 400 rfl ?_))); refine AW.condT rfl ?_; skip; (repeat (first | with_reducible refine AW.seq ?_ | with_reducible refine AW.skip ?_ | with_reducible refine AW.block ?_ | ((with_reducible refine RG.id ?_); refine RG.nil ⟨?_, ?_⟩; · kernel_rfl) | ((with_reducible refine RG.id ?_); refine RG.nil ?_) | ((with_reducible refine AW.text ?_); refine RG.runG ty_ok 0 400 rfl ?_) | ((with_reducible refine AW.draws mixed_ok ?_); refine RG.runG ty_ok 0 400 rfl ?_)))
      refine AW.ret (retM1 rfl (Rm.is rfl rfl) (bk_end rfl rfl rfl rfl (congrArg (fun l => (byteEls l).length) (cutEq k hz)) (congrArg byteEls (cutEq k hz)) rfl ?_ rfl))
      show (if b.fuse < 0 then -1 else b.fuse - k) = 0
      split <;> omega
    refine RG.ownN [(0, 0), (1, 1)] [(0, 0), (1, 1)] (fun q => m_burn_ok (b.at_ (recE e) k) (by rw [hf0]; split <;> omega) (by rw [hf0]; split <;> omega) q) rfl rfl rfl rfl rfl rfl rfl rfl rfl rfl ?_
    refine RG.runG ty_ok 0 400 rfl ?_; (repeat (first | with_reducible refine AW.seq ?_ | with_reducible refine AW.skip ?_ | with_reducible refine AW.block ?_ | ((with_reducible refine RG.id ?_); refine RG.nil ⟨?_, ?_⟩; · kernel_rfl) | ((with_reducible refine RG.id ?_); refine RG.nil ?_) | ((with_reducible refine AW.text ?_); refine RG.runG ty_ok 0 400 rfl ?_) | ((with_reducible refine AW.draws mixed_ok ?_); refine RG.runG ty_ok 0 400 rfl ?_))); refine AW.condF rfl ?_; skip; (repeat (first | with_reducible refine AW.seq ?_ | with_reducible refine AW.skip ?_ | with_reducible refine AW.block ?_ | ((with_reducible refine RG.id ?_); refine RG.nil ⟨?_, ?_⟩; · kernel_rfl) | ((with_reducible refine RG.id ?_); refine RG.nil ?_) | ((with_reducible refine AW.text ?_); refine RG.runG ty_ok 0 400 rfl ?_) | ((with_reducible refine AW.draws mixed_ok ?_); refine RG.runG ty_ok 0 400 rfl ?_)))
    refine RG.opS rfl (op_appendR (id := 1) (id2 := 56) (els := byteEls (b.at_ (recE e) k).all) (els2 := byteEls [(recE e)[k]]) (r := byteEls (b.at_ (recE e) (k + 1)).all) rfl rfl rfl rfl (tab_ok ty_ok rfl) rfl (tab_ok ty_ok rfl) rfl (.inl ⟨_, rfl, rfl⟩) rfl rfl ?_ ?_ ?_ rfl) rfl ?_
    · rw [byteEls_len, byteEls_len, hk1]
      show (b.all.length + k + 1) * 1 ≤ _
      omega
    · rw [byteEls_len, byteEls_len, hk1]
      show b.all.length + k + 1 ≤ _
      omega
    · rw [byteEls_append]
      show byteEls ((b.all ++ (recE e).take k) ++ [(recE e)[k]]) = byteEls (b.all ++ (recE e).take (k + 1))
      rw [List.take_succ_eq_append_getElem hlt, List.append_assoc]
    refine RG.runG ty_ok 0 400 rfl ?_; (repeat (first | with_reducible refine AW.seq ?_ | with_reducible refine AW.skip ?_ | with_reducible refine AW.block ?_ | ((with_reducible refine RG.id ?_); refine RG.nil ⟨?_, ?_⟩; · kernel_rfl) | ((with_reducible refine RG.id ?_); refine RG.nil ?_) | ((with_reducible refine AW.text ?_); refine RG.runG ty_ok 0 400 rfl ?_) | ((with_reducible refine AW.draws mixed_ok ?_); refine RG.runG ty_ok 0 400 rfl ?_)))
    refine ⟨k + 1, ⟨⟨by omega, by omega⟩, by omega⟩, ⟨Rn.ownIs rfl rfl rfl, Rn.is rfl rfl, Rn.is rfl rfl, .is (i64_next hlt (by omega)) rfl, trivial⟩, bk_end rfl rfl rfl rfl rfl rfl rfl ?_ rfl⟩
    show max ((if b.fuse < 0 then -1 else b.fuse - k) - 1) (-1) = if b.fuse < 0 then -1 else b.fuse - ((k + 1 : Nat) : Int)
    split <;> omega
  · skip
    skip; (repeat (first | with_reducible refine AW.seq ?_ | with_reducible refine AW.skip ?_ | with_reducible refine AW.block ?_ | ((with_reducible refine RG.id ?_); refine RG.nil ⟨?_, ?_⟩; · kernel_rfl) | ((with_reducible refine RG.id ?_); refine RG.nil ?_) | ((with_reducible refine AW.text ?_); refine RG.runG ty_ok 0 400 rfl ?_) | ((with_reducible refine AW.draws mixed_ok ?_); refine RG.runG ty_ok 0 400 rfl ?_)))
    refine AW.exit ?_
    refine Eq.mpr (if_pos rfl) ?_
    skip; (repeat (first | with_reducible refine AW.seq ?_ | with_reducible refine AW.skip ?_ | with_reducible refine AW.block ?_ | ((with_reducible refine RG.id ?_); refine RG.nil ⟨?_, ?_⟩; · kernel_rfl) | ((with_reducible refine RG.id ?_); refine RG.nil ?_) | ((with_reducible refine AW.text ?_); refine RG.runG ty_ok 0 400 rfl ?_) | ((with_reducible refine AW.draws mixed_ok ?_); refine RG.runG ty_ok 0 400 rfl ?_)))
    have hlt : ¬ k < (recE e).length := by simpa using hlt
    obtain rfl : k = (recE e).length := by omega
    have hfe : ((recE e).length : Int) = b.fuse := by omega
    have ha : (b.at_ (recE e) (recE e).length).all = (b.cut (recE e)).all := by
      show b.all ++ (recE e).take (recE e).length = b.all ++ (recE e).take b.fuse.toNat
      rw [← hfe, Int.toNat_natCast]
    refine RG.ownN [(0, 0), (1, 1)] [(0, 0), (1, 1)] (fun q => m_burn_cut (b.at_ (recE e) (recE e).length) (by show (if b.fuse < 0 then -1 else b.fuse - (recE e).length) = 0; split <;> omega) q) rfl rfl rfl rfl rfl rfl rfl rfl rfl rfl ?_
    refine RG.runG ty_ok 0 400 rfl ?_; (repeat (first | with_reducible refine AW.seq ?_ | with_reducible refine AW.skip ?_ | with_reducible refine AW.block ?_ | ((with_reducible refine RG.id ?_); refine RG.nil ⟨?_, ?_⟩; · kernel_rfl) | ((with_reducible refine RG.id ?_); refine RG.nil ?_) | ((with_reducible refine AW.text ?_); refine RG.runG ty_ok 0 400 rfl ?_) | ((with_reducible refine AW.draws mixed_ok ?_); refine RG.runG ty_ok 0 400 rfl ?_))); refine AW.condT rfl ?_; skip; (repeat (first | with_reducible refine AW.seq ?_ | with_reducible refine AW.skip ?_ | with_reducible refine AW.block ?_ | ((with_reducible refine RG.id ?_); refine RG.nil ⟨?_, ?_⟩; · kernel_rfl) | ((with_reducible refine RG.id ?_); refine RG.nil ?_) | ((with_reducible refine AW.text ?_); refine RG.runG ty_ok 0 400 rfl ?_) | ((with_reducible refine AW.draws mixed_ok ?_); refine RG.runG ty_ok 0 400 rfl ?_)))
    refine AW.ret (retM1 rfl (Rm.is rfl rfl) (bk_end rfl rfl rfl rfl (congrArg (fun l => (byteEls l).length) ha) (congrArg byteEls ha) rfl ?_ rfl))
    show (if b.fuse < 0 then -1 else b.fuse - (recE e).length) = 0
    split <;> omega
theorem or_i64 {k x y : Nat} (hy : y < 2 ^ k) (hk : x * 2 ^ k + y < 9223372036854775808) : IntKind.i64.wrap (((BitVec.ofInt IntKind.i64.bits ((x * 2 ^ k : Nat) : Int) ||| BitVec.ofInt IntKind.i64.bits (y : Int)).toNat : Nat) : Int) = ((x * 2 ^ k + y : Nat) : Int) := by
  rw [BitVec.ofInt_natCast, BitVec.ofInt_natCast, BitVec.toNat_or, BitVec.toNat_ofNat, BitVec.toNat_ofNat, show IntKind.i64.bits = 64 from rfl, Nat.mod_eq_of_lt (by omega), Nat.mod_eq_of_lt (by omega), ← Nat.shiftLeft_eq, ← Nat.shiftLeft_add_eq_or_of_lt hy, Nat.shiftLeft_eq, IntKind.wrap_i64]
  omega
theorem shl_b (a : UInt8) (k : Nat) (hk : 2 ^ k ≤ 4294967296) : IntKind.i64.wrap (IntKind.i64.wrap (a.toNat : Int) * ((2 ^ k : Nat) : Int)) = ((a.toNat * 2 ^ k : Nat) : Int) := by
  have h := a.toNat_lt
  have h2 : a.toNat * 2 ^ k ≤ 255 * 4294967296 := Nat.mul_le_mul (by omega) hk
  have e : IntKind.i64.wrap (a.toNat : Int) = (a.toNat : Int) := by rw [IntKind.wrap_i64]; omega
  rw [e, ← Int.natCast_mul, IntKind.wrap_i64]
  omega
theorem or_bytes (a b c d : UInt8) (n : Nat) (hn : n < 4294967296) (hr : [a, b, c, d] = recH n) : IntKind.i64.wrap ↑(BitVec.ofInt IntKind.i64.bits (IntKind.i64.wrap ↑(BitVec.ofInt IntKind.i64.bits (IntKind.i64.wrap ↑(BitVec.ofInt IntKind.i64.bits (IntKind.i64.wrap (IntKind.i64.wrap ↑a.toNat * 2 ^ min (UInt64.ofNat 24).toNat IntKind.i64.bits)) ||| BitVec.ofInt IntKind.i64.bits (IntKind.i64.wrap (IntKind.i64.wrap ↑b.toNat * 2 ^ min (UInt64.ofNat 16).toNat IntKind.i64.bits))).toNat) ||| BitVec.ofInt IntKind.i64.bits (IntKind.i64.wrap (IntKind.i64.wrap ↑c.toNat * 2 ^ min (UInt64.ofNat 8).toNat IntKind.i64.bits))).toNat) ||| BitVec.ofInt IntKind.i64.bits (IntKind.i64.wrap ↑d.toNat)).toNat = (n : Int) := by
  have ha := a.toNat_lt
  have hb := b.toNat_lt
  have hc := c.toNat_lt
  have hd := d.toNat_lt
  rw [show (2 : Int) ^ min (UInt64.ofNat 24).toNat IntKind.i64.bits = ((2 ^ 24 : Nat) : Int) by decide, show (2 : Int) ^ min (UInt64.ofNat 16).toNat IntKind.i64.bits = ((2 ^ 16 : Nat) : Int) by decide, show (2 : Int) ^ min (UInt64.ofNat 8).toNat IntKind.i64.bits = ((2 ^ 8 : Nat) : Int) by decide]
  rw [shl_b a 24 (by decide), shl_b b 16 (by decide), shl_b c 8 (by decide), or_i64 (by omega) (by omega)]
  rw [show a.toNat * 2 ^ 24 + b.toNat * 2 ^ 16 = (a.toNat * 256 + b.toNat) * 2 ^ 16 by omega, or_i64 (by omega) (by omega)]
  rw [show (a.toNat * 256 + b.toNat) * 2 ^ 16 + c.toNat * 2 ^ 8 = ((a.toNat * 256 + b.toNat) * 256 + c.toNat) * 2 ^ 8 by omega, show IntKind.i64.wrap (d.toNat : Int) = (d.toNat : Int) by rw [IntKind.wrap_i64]; omega, or_i64 (by omega) (by omega)]
  simp only [recH, List.cons.injEq, and_true] at hr
  obtain ⟨rfl, rfl, rfl, rfl⟩ := hr
  simp only [UInt8.toNat_ofNat']
  omega
theorem enC_zeroE : enC zeroE = [.i .i64 0, .i .i64 0, .i .i64 0, .sl [], .i .i64 0, .sl [], .sl [], .sl []] := by
  have h : i64of 0 = 0 := line_i.1
  simp [enC, cfgC, zeroE, zeroC, h]
theorem d_record_short (l : List UInt8) (h : l.length < 4) : PDoes Try.prog 55 [.sl (byteEls l)] (.tup [.agg (enC zeroE), .i .i64 0]) := by
  rw [enC_zeroE]
  refine PDoes.of_bodyN Try.func55 rfl (by kernel_rfl) rfl rfl ?_
  skip; (repeat (first | with_reducible refine AW.seq ?_ | with_reducible refine AW.skip ?_ | with_reducible refine AW.block ?_ | ((with_reducible refine RG.id ?_); refine RG.nil ⟨?_, ?_⟩; · kernel_rfl) | ((with_reducible refine RG.id ?_); refine RG.nil ?_) | with_reducible refine AW.text ?_ | with_reducible refine AW.draws mixed_ok ?_)); refine RG.runG ty_ok 0 400 rfl ?_; (repeat (first | with_reducible refine AW.seq ?_ | with_reducible refine AW.skip ?_ | with_reducible refine AW.block ?_ | ((with_reducible refine RG.id ?_); refine RG.nil ⟨?_, ?_⟩; · kernel_rfl) | ((with_reducible refine RG.id ?_); refine RG.nil ?_) | with_reducible refine AW.text ?_ | with_reducible refine AW.draws mixed_ok ?_))
  refine RG.runO ty_ok 0 [(9, .b true)] 400 rfl ⟨congrArg AV.b (decide_eq_true (by rw [byteEls_len]; exact Int.ofNat_lt.2 h)), trivial⟩ ?_
  skip; (repeat (first | with_reducible refine AW.seq ?_ | with_reducible refine AW.skip ?_ | with_reducible refine AW.block ?_ | ((with_reducible refine RG.id ?_); refine RG.nil ⟨?_, ?_⟩; · kernel_rfl) | ((with_reducible refine RG.id ?_); refine RG.nil ?_) | ((with_reducible refine AW.text ?_); refine RG.runG ty_ok 0 400 rfl ?_) | ((with_reducible refine AW.draws mixed_ok ?_); refine RG.runG ty_ok 0 400 rfl ?_))); refine AW.condT rfl ?_; skip; (repeat (first | with_reducible refine AW.seq ?_ | with_reducible refine AW.skip ?_ | with_reducible refine AW.block ?_ | ((with_reducible refine RG.id ?_); refine RG.nil ⟨?_, ?_⟩; · kernel_rfl) | ((with_reducible refine RG.id ?_); refine RG.nil ?_) | ((with_reducible refine AW.text ?_); refine RG.runG ty_ok 0 400 rfl ?_) | ((with_reducible refine AW.draws mixed_ok ?_); refine RG.runG ty_ok 0 400 rfl ?_)))
  exact AW.ret (retQct rfl (tab_ok ty_ok rfl) rfl rfl rfl rfl rfl)
theorem recF (a b c d : UInt8) (l : List UInt8) : ¬ ((byteEls (a :: b :: c :: d :: l)).length : Int) < 4 := by
  rw [byteEls_len]
  simp only [List.length_cons]
  omega
theorem d_record_part (a b c d : UInt8) (l : List UInt8) (n : Nat) (hn : n < 4294967296) (h : l.length < n) (hr : [a, b, c, d] = recH n) (hl : l.length ≤ 140737488355328) : PDoes Try.prog 55 [.sl (byteEls (a :: b :: c :: d :: l))] (.tup [.agg (enC zeroE), .i .i64 0]) := by
  rw [enC_zeroE]
  refine PDoes.of_bodyN Try.func55 rfl (by kernel_rfl) rfl rfl ?_
  skip; (repeat (first | with_reducible refine AW.seq ?_ | with_reducible refine AW.skip ?_ | with_reducible refine AW.block ?_ | ((with_reducible refine RG.id ?_); refine RG.nil ⟨?_, ?_⟩; · kernel_rfl) | ((with_reducible refine RG.id ?_); refine RG.nil ?_) | with_reducible refine AW.text ?_ | with_reducible refine AW.draws mixed_ok ?_)); refine RG.runG ty_ok 0 400 rfl ?_; (repeat (first | with_reducible refine AW.seq ?_ | with_reducible refine AW.skip ?_ | with_reducible refine AW.block ?_ | ((with_reducible refine RG.id ?_); refine RG.nil ⟨?_, ?_⟩; · kernel_rfl) | ((with_reducible refine RG.id ?_); refine RG.nil ?_) | with_reducible refine AW.text ?_ | with_reducible refine AW.draws mixed_ok ?_))
  refine RG.runO ty_ok 0 [(9, .b false)] 400 rfl ⟨congrArg AV.b (decide_eq_false (recF a b c d l)), trivial⟩ ?_
  skip; (repeat (first | with_reducible refine AW.seq ?_ | with_reducible refine AW.skip ?_ | with_reducible refine AW.block ?_ | ((with_reducible refine RG.id ?_); refine RG.nil ⟨?_, ?_⟩; · kernel_rfl) | ((with_reducible refine RG.id ?_); refine RG.nil ?_) | ((with_reducible refine AW.text ?_); refine RG.runG ty_ok 0 400 rfl ?_) | ((with_reducible refine AW.draws mixed_ok ?_); refine RG.runG ty_ok 0 400 rfl ?_))); refine AW.condF rfl ?_; skip; (repeat (first | with_reducible refine AW.seq ?_ | with_reducible refine AW.skip ?_ | with_reducible refine AW.block ?_ | ((with_reducible refine RG.id ?_); refine RG.nil ⟨?_, ?_⟩; · kernel_rfl) | ((with_reducible refine RG.id ?_); refine RG.nil ?_) | ((with_reducible refine AW.text ?_); refine RG.runG ty_ok 0 400 rfl ?_) | ((with_reducible refine AW.draws mixed_ok ?_); refine RG.runG ty_ok 0 400 rfl ?_)))
  refine RG.opS rfl (op_index rfl (tab_ok ty_ok rfl) rfl (tab_ok ty_ok rfl) rfl rfl (show (byteEls (a :: b :: c :: d :: l))[0]? = some [.y a] from rfl) rfl) rfl ?_
  refine RG.runG ty_ok 0 400 rfl ?_; (repeat (first | with_reducible refine AW.seq ?_ | with_reducible refine AW.skip ?_ | with_reducible refine AW.block ?_ | ((with_reducible refine RG.id ?_); refine RG.nil ⟨?_, ?_⟩; · kernel_rfl) | ((with_reducible refine RG.id ?_); refine RG.nil ?_) | ((with_reducible refine AW.text ?_); refine RG.runG ty_ok 0 400 rfl ?_) | ((with_reducible refine AW.draws mixed_ok ?_); refine RG.runG ty_ok 0 400 rfl ?_)))
  refine RG.opS rfl (op_index rfl (tab_ok ty_ok rfl) rfl (tab_ok ty_ok rfl) rfl rfl (show (byteEls (a :: b :: c :: d :: l))[1]? = some [.y b] from rfl) rfl) rfl ?_
  refine RG.runG ty_ok 0 400 rfl ?_; (repeat (first | with_reducible refine AW.seq ?_ | with_reducible refine AW.skip ?_ | with_reducible refine AW.block ?_ | ((with_reducible refine RG.id ?_); refine RG.nil ⟨?_, ?_⟩; · kernel_rfl) | ((with_reducible refine RG.id ?_); refine RG.nil ?_) | ((with_reducible refine AW.text ?_); refine RG.runG ty_ok 0 400 rfl ?_) | ((with_reducible refine AW.draws mixed_ok ?_); refine RG.runG ty_ok 0 400 rfl ?_)))
  refine RG.opS rfl (op_index rfl (tab_ok ty_ok rfl) rfl (tab_ok ty_ok rfl) rfl rfl (show (byteEls (a :: b :: c :: d :: l))[2]? = some [.y c] from rfl) rfl) rfl ?_
  refine RG.runG ty_ok 0 400 rfl ?_; (repeat (first | with_reducible refine AW.seq ?_ | with_reducible refine AW.skip ?_ | with_reducible refine AW.block ?_ | ((with_reducible refine RG.id ?_); refine RG.nil ⟨?_, ?_⟩; · kernel_rfl) | ((with_reducible refine RG.id ?_); refine RG.nil ?_) | ((with_reducible refine AW.text ?_); refine RG.runG ty_ok 0 400 rfl ?_) | ((with_reducible refine AW.draws mixed_ok ?_); refine RG.runG ty_ok 0 400 rfl ?_)))
  refine RG.opS rfl (op_index rfl (tab_ok ty_ok rfl) rfl (tab_ok ty_ok rfl) rfl rfl (show (byteEls (a :: b :: c :: d :: l))[3]? = some [.y d] from rfl) rfl) rfl ?_
  refine RG.runO ty_ok 0 [(32, .i .i64 n)] 400 rfl ⟨congrArg (AV.i .i64) (or_bytes a b c d n hn hr), trivial⟩ ?_
  refine RG.nil ⟨?_, ?_⟩
  · kernel_rfl
  skip; (repeat (first | with_reducible refine AW.seq ?_ | with_reducible refine AW.skip ?_ | with_reducible refine AW.block ?_ | ((with_reducible refine RG.id ?_); refine RG.nil ⟨?_, ?_⟩; · kernel_rfl) | ((with_reducible refine RG.id ?_); refine RG.nil ?_) | with_reducible refine AW.text ?_ | with_reducible refine AW.draws mixed_ok ?_))
  refine RG.runO ty_ok 0 [(37, .b true)] 400 rfl ⟨congrArg AV.b (decide_eq_true ?_), trivial⟩ ?_
  · rw [byteEls_len]
    simp only [IntKind.wrap_i64, List.length_cons, Int.ofNat_eq_natCast]
    omega
  skip; (repeat (first | with_reducible refine AW.seq ?_ | with_reducible refine AW.skip ?_ | with_reducible refine AW.block ?_ | ((with_reducible refine RG.id ?_); refine RG.nil ⟨?_, ?_⟩; · kernel_rfl) | ((with_reducible refine RG.id ?_); refine RG.nil ?_) | ((with_reducible refine AW.text ?_); refine RG.runG ty_ok 0 400 rfl ?_) | ((with_reducible refine AW.draws mixed_ok ?_); refine RG.runG ty_ok 0 400 rfl ?_))); refine AW.condT rfl ?_; skip; (repeat (first | with_reducible refine AW.seq ?_ | with_reducible refine AW.skip ?_ | with_reducible refine AW.block ?_ | ((with_reducible refine RG.id ?_); refine RG.nil ⟨?_, ?_⟩; · kernel_rfl) | ((with_reducible refine RG.id ?_); refine RG.nil ?_) | ((with_reducible refine AW.text ?_); refine RG.runG ty_ok 0 400 rfl ?_) | ((with_reducible refine AW.draws mixed_ok ?_); refine RG.runG ty_ok 0 400 rfl ?_)))
  exact AW.ret (retQct rfl (tab_ok ty_ok rfl) rfl rfl rfl rfl rfl)
theorem d_record_yes (e : En) (rest : List UInt8) (a b c d : UInt8) (l : List UInt8) (n : Nat) (hf : e.cfg.fit = true) (hN : (sealW e.words).length = n) (hn : n < 4294967296) (hr : [a, b, c, d] = recH n) (hl : l = sealW e.words ++ rest) (hL : l.length ≤ 140737488355328) : PDoes Try.prog 55 [.sl (byteEls (a :: b :: c :: d :: l))] (.tup [.agg (enC e), .i .i64 (4 + n : Nat)]) := by
  refine PDoes.of_bodyN Try.func55 rfl (by kernel_rfl) rfl rfl ?_
  skip; (repeat (first | with_reducible refine AW.seq ?_ | with_reducible refine AW.skip ?_ | with_reducible refine AW.block ?_ | ((with_reducible refine RG.id ?_); refine RG.nil ⟨?_, ?_⟩; · kernel_rfl) | ((with_reducible refine RG.id ?_); refine RG.nil ?_) | with_reducible refine AW.text ?_ | with_reducible refine AW.draws mixed_ok ?_)); refine RG.runG ty_ok 0 400 rfl ?_; (repeat (first | with_reducible refine AW.seq ?_ | with_reducible refine AW.skip ?_ | with_reducible refine AW.block ?_ | ((with_reducible refine RG.id ?_); refine RG.nil ⟨?_, ?_⟩; · kernel_rfl) | ((with_reducible refine RG.id ?_); refine RG.nil ?_) | with_reducible refine AW.text ?_ | with_reducible refine AW.draws mixed_ok ?_))
  refine RG.runO ty_ok 0 [(9, .b false)] 400 rfl ⟨congrArg AV.b (decide_eq_false (recF a b c d l)), trivial⟩ ?_
  skip; (repeat (first | with_reducible refine AW.seq ?_ | with_reducible refine AW.skip ?_ | with_reducible refine AW.block ?_ | ((with_reducible refine RG.id ?_); refine RG.nil ⟨?_, ?_⟩; · kernel_rfl) | ((with_reducible refine RG.id ?_); refine RG.nil ?_) | ((with_reducible refine AW.text ?_); refine RG.runG ty_ok 0 400 rfl ?_) | ((with_reducible refine AW.draws mixed_ok ?_); refine RG.runG ty_ok 0 400 rfl ?_))); refine AW.condF rfl ?_; skip; (repeat (first | with_reducible refine AW.seq ?_ | with_reducible refine AW.skip ?_ | with_reducible refine AW.block ?_ | ((with_reducible refine RG.id ?_); refine RG.nil ⟨?_, ?_⟩; · kernel_rfl) | ((with_reducible refine RG.id ?_); refine RG.nil ?_) | ((with_reducible refine AW.text ?_); refine RG.runG ty_ok 0 400 rfl ?_) | ((with_reducible refine AW.draws mixed_ok ?_); refine RG.runG ty_ok 0 400 rfl ?_)))
  refine RG.opS rfl (op_index rfl (tab_ok ty_ok rfl) rfl (tab_ok ty_ok rfl) rfl rfl (show (byteEls (a :: b :: c :: d :: l))[0]? = some [.y a] from rfl) rfl) rfl ?_
  refine RG.runG ty_ok 0 400 rfl ?_; (repeat (first | with_reducible refine AW.seq ?_ | with_reducible refine AW.skip ?_ | with_reducible refine AW.block ?_ | ((with_reducible refine RG.id ?_); refine RG.nil ⟨?_, ?_⟩; · kernel_rfl) | ((with_reducible refine RG.id ?_); refine RG.nil ?_) | ((with_reducible refine AW.text ?_); refine RG.runG ty_ok 0 400 rfl ?_) | ((with_reducible refine AW.draws mixed_ok ?_); refine RG.runG ty_ok 0 400 rfl ?_)))
  refine RG.opS rfl (op_index rfl (tab_ok ty_ok rfl) rfl (tab_ok ty_ok rfl) rfl rfl (show (byteEls (a :: b :: c :: d :: l))[1]? = some [.y b] from rfl) rfl) rfl ?_
  refine RG.runG ty_ok 0 400 rfl ?_; (repeat (first | with_reducible refine AW.seq ?_ | with_reducible refine AW.skip ?_ | with_reducible refine AW.block ?_ | ((with_reducible refine RG.id ?_); refine RG.nil ⟨?_, ?_⟩; · kernel_rfl) | ((with_reducible refine RG.id ?_); refine RG.nil ?_) | ((with_reducible refine AW.text ?_); refine RG.runG ty_ok 0 400 rfl ?_) | ((with_reducible refine AW.draws mixed_ok ?_); refine RG.runG ty_ok 0 400 rfl ?_)))
  refine RG.opS rfl (op_index rfl (tab_ok ty_ok rfl) rfl (tab_ok ty_ok rfl) rfl rfl (show (byteEls (a :: b :: c :: d :: l))[2]? = some [.y c] from rfl) rfl) rfl ?_
  refine RG.runG ty_ok 0 400 rfl ?_; (repeat (first | with_reducible refine AW.seq ?_ | with_reducible refine AW.skip ?_ | with_reducible refine AW.block ?_ | ((with_reducible refine RG.id ?_); refine RG.nil ⟨?_, ?_⟩; · kernel_rfl) | ((with_reducible refine RG.id ?_); refine RG.nil ?_) | ((with_reducible refine AW.text ?_); refine RG.runG ty_ok 0 400 rfl ?_) | ((with_reducible refine AW.draws mixed_ok ?_); refine RG.runG ty_ok 0 400 rfl ?_)))
  refine RG.opS rfl (op_index rfl (tab_ok ty_ok rfl) rfl (tab_ok ty_ok rfl) rfl rfl (show (byteEls (a :: b :: c :: d :: l))[3]? = some [.y d] from rfl) rfl) rfl ?_
  refine RG.runO ty_ok 0 [(32, .i .i64 n)] 400 rfl ⟨congrArg (AV.i .i64) (or_bytes a b c d n hn hr), trivial⟩ ?_
  refine RG.nil ⟨?_, ?_⟩
  · kernel_rfl
  skip; (repeat (first | with_reducible refine AW.seq ?_ | with_reducible refine AW.skip ?_ | with_reducible refine AW.block ?_ | ((with_reducible refine RG.id ?_); refine RG.nil ⟨?_, ?_⟩; · kernel_rfl) | ((with_reducible refine RG.id ?_); refine RG.nil ?_) | with_reducible refine AW.text ?_ | with_reducible refine AW.draws mixed_ok ?_))
  have hlen : n ≤ l.length := by rw [hl, List.length_append, hN]; omega
  refine RG.runO ty_ok 0 [(37, .b false)] 400 rfl ⟨congrArg AV.b (decide_eq_false ?_), trivial⟩ ?_
  · rw [byteEls_len]
    simp only [IntKind.wrap_i64, List.length_cons, Int.ofNat_eq_natCast]
    omega
  skip; (repeat (first | with_reducible refine AW.seq ?_ | with_reducible refine AW.skip ?_ | with_reducible refine AW.block ?_ | ((with_reducible refine RG.id ?_); refine RG.nil ⟨?_, ?_⟩; · kernel_rfl) | ((with_reducible refine RG.id ?_); refine RG.nil ?_) | ((with_reducible refine AW.text ?_); refine RG.runG ty_ok 0 400 rfl ?_) | ((with_reducible refine AW.draws mixed_ok ?_); refine RG.runG ty_ok 0 400 rfl ?_))); refine AW.condF rfl ?_; skip; (repeat (first | with_reducible refine AW.seq ?_ | with_reducible refine AW.skip ?_ | with_reducible refine AW.block ?_ | ((with_reducible refine RG.id ?_); refine RG.nil ⟨?_, ?_⟩; · kernel_rfl) | ((with_reducible refine RG.id ?_); refine RG.nil ?_) | with_reducible refine AW.text ?_ | with_reducible refine AW.draws mixed_ok ?_))
  refine RG.runO ty_ok 0 [(42, .i .i64 (4 + n : Nat))] 400 rfl ⟨congrArg (AV.i .i64) ?_, trivial⟩ ?_
  · simp only [IntKind.wrap_i64, Int.ofNat_eq_natCast]
    omega
  refine RG.opS rfl (op_slice (l := 4) (h := 4 + n) rfl (tab_ok ty_ok rfl) rfl (tab_ok ty_ok rfl) rfl (.at_ rfl) (.at_ rfl) (by omega) (by rw [byteEls_len]; simp only [List.length_cons]; omega) (byteEls_one _)) rfl ?_
  have hsl : ((byteEls (a :: b :: c :: d :: l)).drop 4).take (4 + n - 4) = byteEls (sealW e.words) := by
    show (byteEls l).take (4 + n - 4) = _
    rw [Nat.add_sub_cancel_left, hl, ← byteEls_append, List.take_left' (by rw [byteEls_len, hN])]
  rw [hsl]
  refine RG.callMS rfl rfl rfl rfl rfl rfl (d_ReadEntry_yes _ e ⟨hf, rfl⟩ (fun y hy => reads_en y hy) (by rw [hN]; omega)) rfl ?_
  refine RG.runG ty_ok 0 400 rfl ?_; (repeat (first | with_reducible refine AW.seq ?_ | with_reducible refine AW.skip ?_ | with_reducible refine AW.block ?_ | ((with_reducible refine RG.id ?_); refine RG.nil ⟨?_, ?_⟩; · kernel_rfl) | ((with_reducible refine RG.id ?_); refine RG.nil ?_) | ((with_reducible refine AW.text ?_); refine RG.runG ty_ok 0 400 rfl ?_) | ((with_reducible refine AW.draws mixed_ok ?_); refine RG.runG ty_ok 0 400 rfl ?_))); refine AW.condF rfl ?_; skip; (repeat (first | with_reducible refine AW.seq ?_ | with_reducible refine AW.skip ?_ | with_reducible refine AW.block ?_ | ((with_reducible refine RG.id ?_); refine RG.nil ⟨?_, ?_⟩; · kernel_rfl) | ((with_reducible refine RG.id ?_); refine RG.nil ?_) | with_reducible refine AW.text ?_ | with_reducible refine AW.draws mixed_ok ?_))
  refine RG.runO ty_ok 0 [(52, .i .i64 (4 + n : Nat))] 400 rfl ⟨congrArg (AV.i .i64) ?_, trivial⟩ ?_
  · simp only [IntKind.wrap_i64, Int.ofNat_eq_natCast]
    omega
  skip; (repeat (first | with_reducible refine AW.seq ?_ | with_reducible refine AW.skip ?_ | with_reducible refine AW.block ?_ | ((with_reducible refine RG.id ?_); refine RG.nil ⟨?_, ?_⟩; · kernel_rfl) | ((with_reducible refine RG.id ?_); refine RG.nil ?_) | ((with_reducible refine AW.text ?_); refine RG.runG ty_ok 0 400 rfl ?_) | ((with_reducible refine AW.draws mixed_ok ?_); refine RG.runG ty_ok 0 400 rfl ?_)))
  exact AW.ret (retQct rfl (tab_ok ty_ok rfl) rfl rfl rfl rfl rfl)
/-! ### The journal, read -/
/-- Bytes that begin no whole record. -/
def Part (p : List UInt8) : Prop := p.length < 4 ∨ ∃ n a b c d l, p = a :: b :: c :: d :: l ∧ [a, b, c, d] = recH n ∧ n < 4294967296 ∧ l.length < n
def okEn (e : En) : Prop := e.cfg.fit = true ∧ (sealW e.words).length < 4294967296
def ent (es : List En) (k : Nat) : En := (es[k]?).getD zeroE
def szE (es : List En) (k : Nat) : Nat := ((es[k]?).map fun e => (recE e).length).getD 0
theorem recE_len (e : En) : (recE e).length = 4 + (sealW e.words).length := by
  rw [recE, List.length_append]
  rfl
theorem d_record_at (es : List En) (p : List UInt8) (hp : Part p) (hes : ∀ e ∈ es, okEn e) (k : Nat) (hL : (es.flatMap recE ++ p).length ≤ 140737488355328) : PDoes Try.prog 55 [.sl (byteEls ((es.drop k).flatMap recE ++ p))] (.tup [.agg (enC (ent es k)), .i .i64 (szE es k : Nat)]) := by
  by_cases hk : k < es.length
  · have he : es[k]? = some es[k] := List.getElem?_eq_getElem hk
    have hok := hes es[k] (List.getElem_mem hk)
    have h1 : (es.drop k).flatMap recE ++ p = recE es[k] ++ ((es.drop (k + 1)).flatMap recE ++ p) := by
      rw [List.drop_eq_getElem_cons hk, List.flatMap_cons, List.append_assoc]
    have h2 : ent es k = es[k] := by rw [ent, he]; rfl
    have h3 : szE es k = 4 + (sealW es[k].words).length := by rw [szE, he]; exact recE_len _
    have hlen : ((es.drop k).flatMap recE ++ p).length ≤ (es.flatMap recE ++ p).length := by
      conv => rhs; rw [← List.take_append_drop k es]
      rw [List.flatMap_append]
      simp only [List.length_append]
      omega
    rw [h2, h3]
    rw [h1] at hlen ⊢
    generalize (es.drop (k + 1)).flatMap recE ++ p = rest at hlen ⊢
    rw [recE, List.append_assoc] at hlen ⊢
    exact d_record_yes es[k] rest _ _ _ _ (sealW es[k].words ++ rest) _ hok.1 rfl hok.2 rfl rfl (by
      rw [List.length_append] at hlen
      omega)
  · have he : es[k]? = none := List.getElem?_eq_none (by omega)
    have h2 : ent es k = zeroE := by rw [ent, he]; rfl
    have h3 : szE es k = 0 := by rw [szE, he]; rfl
    rw [h2, h3, List.drop_eq_nil_of_le (by omega)]
    show PDoes _ _ [.sl (byteEls p)] _
    rcases hp with hp | ⟨n, a, b, c, d, l, rfl, hr, hn, hl⟩
    · exact d_record_short p hp
    · exact d_record_part a b c d l n hn hl hr (by
        simp only [List.length_append, List.length_cons] at hL
        omega)
def Bk.read (b : Bk) (es : List En) : Bk := { b with all := es.flatMap recE, sure := (es.flatMap recE).length }
def offE (es : List En) (k : Nat) : Nat := ((es.take k).flatMap recE).length
theorem recs_len : ∀ es : List En, es.length ≤ (es.flatMap recE).length
  | [] => Nat.le_refl _
  | e :: es => by
    have := recs_len es
    rw [List.flatMap_cons, List.length_append, recE_len, List.length_cons]
    omega
theorem m_Entries (b : Bk) (hd : b.dead = false) (es : List En) (p : List UInt8) (hp : Part p) (hes : ∀ e ∈ es, okEn e) (ha : b.all = es.flatMap recE ++ p) (hL : b.all.length ≤ 1000000000000) (q : Nat → Option (Nat × Nat)) : MDoes Try.prog 31 [.own 0 0 0] (gl q [0] (bkB b)) (.tup [.sl (es.map enC), .i .i64 0]) (gl q [0] (bkB (b.read es))) := by
  refine MDoes.of_body Try.func31 rfl (by kernel_rfl) rfl rfl ?_
  skip; (repeat (first | with_reducible refine AW.seq ?_ | with_reducible refine AW.skip ?_ | with_reducible refine AW.block ?_ | ((with_reducible refine RG.id ?_); refine RG.nil ⟨?_, ?_⟩; · kernel_rfl) | ((with_reducible refine RG.id ?_); refine RG.nil ?_) | ((with_reducible refine AW.text ?_); refine RG.runG ty_ok 0 400 rfl ?_) | ((with_reducible refine AW.draws mixed_ok ?_); refine RG.runG ty_ok 0 400 rfl ?_)))
  refine RG.ownN [(0, 0), (1, 1)] [(0, 0), (1, 1)] (fun q => m_live_up b hd q) rfl rfl rfl rfl rfl rfl rfl rfl rfl rfl ?_
  refine RG.runG ty_ok 0 400 rfl ?_; (repeat (first | with_reducible refine AW.seq ?_ | with_reducible refine AW.skip ?_ | with_reducible refine AW.block ?_ | ((with_reducible refine RG.id ?_); refine RG.nil ⟨?_, ?_⟩; · kernel_rfl) | ((with_reducible refine RG.id ?_); refine RG.nil ?_) | ((with_reducible refine AW.text ?_); refine RG.runG ty_ok 0 400 rfl ?_) | ((with_reducible refine AW.draws mixed_ok ?_); refine RG.runG ty_ok 0 400 rfl ?_))); refine AW.condF rfl ?_; skip; (repeat (first | with_reducible refine AW.seq ?_ | with_reducible refine AW.skip ?_ | with_reducible refine AW.block ?_ | ((with_reducible refine RG.id ?_); refine RG.nil ⟨?_, ?_⟩; · kernel_rfl) | ((with_reducible refine RG.id ?_); refine RG.nil ?_)))
  refine AW.freeze [1] [(0, .own 0 0 0)] [(900, ⟨0, some (.ghost 0 0 (q 0))⟩), (0, ⟨0, some (.box 124 [.sl (byteEls b.all), .i .i64 b.sure, .i .i64 b.fuse, .b false])⟩)] ⟨.rn (Rn.ownIs rfl rfl rfl), trivial⟩ ⟨.old (.ghost rfl rfl rfl), .boxL rfl ⟨.fzA rfl rfl ?_, RnF.is rfl rfl, RnF.is rfl rfl, RnF.is (congrArg AV.b hd) rfl, trivial⟩ rfl, trivial⟩ rfl ?_
  · show AV.sl (((byteEls b.all).drop 0).take (byteEls b.all).length) = _
    rw [List.drop_zero, List.take_length]
  refine AW.text ?_; refine RG.runG ty_ok 0 400 rfl ?_; (repeat (first | with_reducible refine AW.seq ?_ | with_reducible refine AW.skip ?_ | with_reducible refine AW.block ?_ | ((with_reducible refine RG.id ?_); refine RG.nil ⟨?_, ?_⟩; · kernel_rfl) | ((with_reducible refine RG.id ?_); refine RG.nil ?_)))
  refine AW.nilRow 50 0 57 8 [(0, .own 0 0 0), (5, .row 50 0 0 0)] [(900, ⟨0, some (.ghost 0 0 (q 0))⟩), (0, ⟨0, some (.box 124 [.sl (byteEls b.all), .i .i64 b.sure, .i .i64 b.fuse, .b false])⟩), (50, ⟨0, some (.row 57 8 [])⟩)] ⟨.rn (Rn.ownIs rfl rfl rfl), .nil rfl, trivial⟩ ⟨.old (.ghost rfl rfl rfl), .old (.same rfl rfl rfl), .old (.row rfl rfl), trivial⟩ ?_
  skip; (repeat (first | with_reducible refine AW.seq ?_ | with_reducible refine AW.skip ?_ | with_reducible refine AW.block ?_ | ((with_reducible refine RG.id ?_); refine RG.nil ⟨?_, ?_⟩; · kernel_rfl) | ((with_reducible refine RG.id ?_); refine RG.nil ?_) | ((with_reducible refine AW.text ?_); refine RG.runG ty_ok 0 400 rfl ?_) | ((with_reducible refine AW.draws mixed_ok ?_); refine RG.runG ty_ok 0 400 rfl ?_)))
  have hr := d_record_at es p hp hes
  have ha0 : b.all = (es.drop 0).flatMap recE ++ p := ha
  refine RG.callMS rfl rfl rfl rfl rfl rfl (by have := hr 0 (by rw [← ha]; omega); rw [← ha0] at this; exact this) rfl ?_
  refine RG.runG ty_ok 0 400 rfl ?_; (repeat (first | with_reducible refine AW.seq ?_ | with_reducible refine AW.skip ?_ | with_reducible refine AW.block ?_ | ((with_reducible refine RG.id ?_); refine RG.nil ⟨?_, ?_⟩; · kernel_rfl) | ((with_reducible refine RG.id ?_); refine RG.nil ?_) | ((with_reducible refine AW.text ?_); refine RG.runG ty_ok 0 400 rfl ?_) | ((with_reducible refine AW.draws mixed_ok ?_); refine RG.runG ty_ok 0 400 rfl ?_)))
  have hcount : es.length ≤ 1000000000000 := by
    have := recs_len es
    rw [ha, List.length_append] at hL
    omega
  refine AW.loopL (ι := Nat) (fun k => [(0, .own 0 0 0), (5, .row 50 0 0 ((es.take k).map enC).length), (6, .i .i64 (offE es k : Nat)), (7, .own 7 0 0), (8, .i .i64 (szE es k : Nat))]) (fun k => [(900, ⟨0, some (.ghost 0 0 (q 0))⟩), (0, ⟨0, some (.box 124 [.sl (byteEls b.all), .i .i64 b.sure, .i .i64 b.fuse, .b false])⟩), (50, ⟨0, some (.row 57 8 ((es.take k).map enC))⟩), (7, ⟨0, some (.box 57 (enC (ent es k)))⟩)]) (fun k => k ≤ es.length) (fun k => es.length - k) 0 (Nat.zero_le _) ⟨Rn.ownIs rfl rfl rfl, Rn.rowIs rfl rfl rfl, Rn.is rfl rfl, Rn.ownIs rfl rfl rfl, Rn.is rfl rfl, trivial⟩ ⟨.ghost rfl rfl rfl, .same rfl rfl rfl, .row rfl rfl, .same rfl rfl rfl, trivial⟩ fun k hk => ?_
  skip; (repeat (first | with_reducible refine AW.seq ?_ | with_reducible refine AW.skip ?_ | with_reducible refine AW.block ?_ | ((with_reducible refine RG.id ?_); refine RG.nil ⟨?_, ?_⟩; · kernel_rfl) | ((with_reducible refine RG.id ?_); refine RG.nil ?_) | ((with_reducible refine AW.text ?_); refine RG.runG ty_ok 0 400 rfl ?_) | ((with_reducible refine AW.draws mixed_ok ?_); refine RG.runG ty_ok 0 400 rfl ?_)))
  refine AW.cond rfl (fun hlt => ?_) (fun hlt => ?_)
  · have hlt : k < es.length := by
      rcases Nat.lt_or_ge k es.length with h | h
      · exact h
      · rw [show szE es k = 0 by rw [szE, List.getElem?_eq_none h]; rfl] at hlt
        simp at hlt
    have he : es[k]? = some es[k] := List.getElem?_eq_getElem hlt
    have hsz : offE es k + szE es k = offE es (k + 1) := by
      rw [offE, offE, List.take_succ_eq_append_getElem hlt, List.flatMap_append, List.length_append, szE, he]
      simp
    have hoff : offE es (k + 1) ≤ b.all.length := by
      rw [ha, offE]
      conv => rhs; rw [← List.take_append_drop (k + 1) es]
      rw [List.flatMap_append]
      simp only [List.length_append]
      omega
    skip; (repeat (first | with_reducible refine AW.seq ?_ | with_reducible refine AW.skip ?_ | with_reducible refine AW.block ?_ | ((with_reducible refine RG.id ?_); refine RG.nil ⟨?_, ?_⟩; · kernel_rfl) | ((with_reducible refine RG.id ?_); refine RG.nil ?_) | ((with_reducible refine AW.text ?_); refine RG.runG ty_ok 0 400 rfl ?_) | ((with_reducible refine AW.draws mixed_ok ?_); refine RG.runG ty_ok 0 400 rfl ?_)))
    refine RG.opS rfl (op_appendR (id := 50) (id2 := 36) (els := (es.take k).map enC) (els2 := [enC (ent es k)]) (r := (es.take (k + 1)).map enC) rfl rfl rfl rfl (tab_ok ty_ok rfl) rfl (tab_ok ty_ok rfl) rfl (.inl ⟨_, rfl, rfl⟩) rfl rfl ?_ ?_ ?_ rfl) rfl ?_
    · rw [List.length_map, List.length_take]
      show (min k es.length + 1) * 128 ≤ _
      omega
    · rw [List.length_map, List.length_take]
      show min k es.length + 1 ≤ _
      omega
    · rw [List.take_succ_eq_append_getElem hlt, List.map_append, ent, he]
      rfl
    refine RG.runG ty_ok 0 400 rfl ?_; (repeat (first | with_reducible refine AW.seq ?_ | with_reducible refine AW.skip ?_ | with_reducible refine AW.block ?_ | ((with_reducible refine RG.id ?_); refine RG.nil ⟨?_, ?_⟩; · kernel_rfl) | ((with_reducible refine RG.id ?_); refine RG.nil ?_) | with_reducible refine AW.text ?_ | with_reducible refine AW.draws mixed_ok ?_))
    refine RG.runO ty_ok 0 [(40, .i .i64 (offE es (k + 1) : Nat))] 400 rfl ⟨congrArg (AV.i .i64) ?_, trivial⟩ ?_
    · rw [← hsz]
      simp only [IntKind.wrap_i64]
      omega
    skip; (repeat (first | with_reducible refine AW.seq ?_ | with_reducible refine AW.skip ?_ | with_reducible refine AW.block ?_ | ((with_reducible refine RG.id ?_); refine RG.nil ⟨?_, ?_⟩; · kernel_rfl) | ((with_reducible refine RG.id ?_); refine RG.nil ?_) | ((with_reducible refine AW.text ?_); refine RG.runG ty_ok 0 400 rfl ?_) | ((with_reducible refine AW.draws mixed_ok ?_); refine RG.runG ty_ok 0 400 rfl ?_)))
    refine RG.opS rfl (op_slice (l := offE es (k + 1)) (h := (byteEls b.all).length) rfl (tab_ok ty_ok rfl) rfl (tab_ok ty_ok rfl) rfl (.at_ rfl) .no (by rw [byteEls_len]; exact hoff) (Nat.le_refl _) (byteEls_one _)) rfl ?_
    have hsl : ((byteEls b.all).drop (offE es (k + 1))).take ((byteEls b.all).length - offE es (k + 1)) = byteEls ((es.drop (k + 1)).flatMap recE ++ p) := by
      have e1 : b.all = (es.take (k + 1)).flatMap recE ++ ((es.drop (k + 1)).flatMap recE ++ p) := by
        rw [← List.append_assoc, ← List.flatMap_append, List.take_append_drop]
        exact ha
      rw [List.take_of_length_le (by rw [List.length_drop]; omega), e1, offE, ← byteEls_append, List.drop_left' (byteEls_len _)]
    rw [hsl]
    refine RG.callMS rfl rfl rfl rfl rfl rfl (hr (k + 1) (by rw [← ha]; omega)) rfl ?_
    refine RG.runG ty_ok 0 400 rfl ?_; (repeat (first | with_reducible refine AW.seq ?_ | with_reducible refine AW.skip ?_ | with_reducible refine AW.block ?_ | ((with_reducible refine RG.id ?_); refine RG.nil ⟨?_, ?_⟩; · kernel_rfl) | ((with_reducible refine RG.id ?_); refine RG.nil ?_) | ((with_reducible refine AW.text ?_); refine RG.runG ty_ok 0 400 rfl ?_) | ((with_reducible refine AW.draws mixed_ok ?_); refine RG.runG ty_ok 0 400 rfl ?_)))
    refine ⟨k + 1, ⟨by omega, by omega⟩, ⟨Rn.ownIs rfl rfl rfl, Rn.rowIs rfl rfl rfl, Rn.is rfl rfl, Rn.ownIs rfl rfl rfl, Rn.is rfl rfl, trivial⟩, ⟨.ghost rfl rfl rfl, .same rfl rfl rfl, .row rfl rfl, .same rfl rfl rfl, trivial⟩⟩
  · skip
    skip; (repeat (first | with_reducible refine AW.seq ?_ | with_reducible refine AW.skip ?_ | with_reducible refine AW.block ?_ | ((with_reducible refine RG.id ?_); refine RG.nil ⟨?_, ?_⟩; · kernel_rfl) | ((with_reducible refine RG.id ?_); refine RG.nil ?_) | ((with_reducible refine AW.text ?_); refine RG.runG ty_ok 0 400 rfl ?_) | ((with_reducible refine AW.draws mixed_ok ?_); refine RG.runG ty_ok 0 400 rfl ?_)))
    refine AW.exit ?_
    refine Eq.mpr (if_pos rfl) ?_
    have hlt : k = es.length := by
      rcases Nat.lt_or_ge k es.length with h | h
      · rw [show szE es k = (recE es[k]).length by rw [szE, List.getElem?_eq_getElem h]; rfl, recE_len] at hlt
        simp at hlt
        omega
      · omega
    subst hlt
    have hoff : offE es es.length = (es.flatMap recE).length := by rw [offE, List.take_length]
    skip; (repeat (first | with_reducible refine AW.seq ?_ | with_reducible refine AW.skip ?_ | with_reducible refine AW.block ?_ | ((with_reducible refine RG.id ?_); refine RG.nil ⟨?_, ?_⟩; · kernel_rfl) | ((with_reducible refine RG.id ?_); refine RG.nil ?_) | ((with_reducible refine AW.text ?_); refine RG.runG ty_ok 0 400 rfl ?_) | ((with_reducible refine AW.draws mixed_ok ?_); refine RG.runG ty_ok 0 400 rfl ?_)))
    refine RG.opS rfl (op_slice (l := 0) (h := offE es es.length) rfl (tab_ok ty_ok rfl) rfl (tab_ok ty_ok rfl) rfl .no (.at_ rfl) (Nat.zero_le _) (by rw [byteEls_len, hoff, ha, List.length_append]; omega) (byteEls_one _)) rfl ?_
    have hsl : ((byteEls b.all).drop 0).take (offE es es.length - 0) = byteEls (es.flatMap recE) := by
      rw [List.drop_zero, Nat.sub_zero, hoff, ha, ← byteEls_append, List.take_left' (byteEls_len _)]
    rw [hsl]
    refine RG.ownN [] [(5, 1)] (fun q => m_Clone (es.flatMap recE) (by rw [ha, List.length_append] at hL; omega) q) rfl rfl rfl rfl rfl rfl rfl rfl rfl rfl ?_
    refine RG.runG ty_ok 0 400 rfl ?_; (repeat (first | with_reducible refine AW.seq ?_ | with_reducible refine AW.skip ?_ | with_reducible refine AW.block ?_ | ((with_reducible refine RG.id ?_); refine RG.nil ⟨?_, ?_⟩; · kernel_rfl) | ((with_reducible refine RG.id ?_); refine RG.nil ?_) | ((with_reducible refine AW.text ?_); refine RG.runG ty_ok 0 400 rfl ?_) | ((with_reducible refine AW.draws mixed_ok ?_); refine RG.runG ty_ok 0 400 rfl ?_)))
    refine AW.freeze [50] [(2, .sl (es.map enC)), (3, .i .i64 (0 : Nat))] (gl q [0] (bkB (b.read es))) ⟨.fzA rfl rfl ?_, .is rfl rfl, trivial⟩ (wkBF_of (bk_end rfl rfl rfl rfl rfl rfl ?_ rfl ?_)) rfl ?_
    · show AV.sl ((((es.take es.length).map enC).drop 0).take ((es.take es.length).map enC).length) = _
      rw [List.drop_zero, List.take_length, List.take_length]
    · exact congrArg (fun n : Nat => (n : Int)) hoff
    · exact hd.symm
    exact AW.ret (retM2 rfl (Rm.is rfl rfl) (Rm.is rfl rfl) (bk_end rfl rfl rfl rfl rfl rfl rfl rfl rfl))
end Go.Proofs.Ytpaldbejnbcokaa.Sm
end
section
namespace Go.Proofs.Ytpaldbejnbcokaa.Sm
open Go.RowKit
set_option linter.unusedVariables false
set_option maxRecDepth 100000
set_option maxHeartbeats 2000000
theorem en_eq (x y : En) : x = y ↔ i64of x.kind = i64of y.kind ∧ i64of x.version = i64of y.version ∧ i64of x.serial = i64of y.serial ∧ x.cfg = y.cfg := by
  cases x; cases y
  simp only [En.mk.injEq, i64of_eq]
theorem d_same (x y : En) (b : Bool) (hb : b = true ↔ x = y) : PDoes Try.prog 32 [.agg (enC x), .agg (enC y)] (.b b) := by
  rw [en_eq] at hb
  refine PDoes.of_bodyN Try.func32 rfl (by kernel_rfl) rfl rfl ?_
  skip; (repeat (first | with_reducible refine AW.seq ?_ | with_reducible refine AW.skip ?_ | with_reducible refine AW.block ?_ | ((with_reducible refine RG.id ?_); refine RG.nil ⟨?_, ?_⟩; · kernel_rfl) | ((with_reducible refine RG.id ?_); refine RG.nil ?_) | with_reducible refine AW.text ?_ | with_reducible refine AW.draws mixed_ok ?_)); refine RG.runG ty_ok 0 400 rfl ?_; (repeat (first | with_reducible refine AW.seq ?_ | with_reducible refine AW.skip ?_ | with_reducible refine AW.block ?_ | ((with_reducible refine RG.id ?_); refine RG.nil ⟨?_, ?_⟩; · kernel_rfl) | ((with_reducible refine RG.id ?_); refine RG.nil ?_) | with_reducible refine AW.text ?_ | with_reducible refine AW.draws mixed_ok ?_))
  by_cases h1 : i64of x.kind = i64of y.kind
  · by_cases h2 : i64of x.version = i64of y.version
    · by_cases h3 : i64of x.serial = i64of y.serial
      · refine RG.runO ty_ok 0 [(9, .b true), (15, .b true), (22, .b true)] 400 rfl ⟨congrArg AV.b (decide_eq_true h3), congrArg AV.b (decide_eq_true h2), congrArg AV.b (decide_eq_true h1), trivial⟩ ?_
        refine RG.callS rfl rfl rfl rfl rfl (d_Same x.cfg y.cfg b (by rw [hb]; simp [h1, h2, h3])) rfl rfl ?_
        refine RG.runG ty_ok 0 400 rfl ?_; (repeat (first | with_reducible refine AW.seq ?_ | with_reducible refine AW.skip ?_ | with_reducible refine AW.block ?_ | ((with_reducible refine RG.id ?_); refine RG.nil ⟨?_, ?_⟩; · kernel_rfl) | ((with_reducible refine RG.id ?_); refine RG.nil ?_) | ((with_reducible refine AW.text ?_); refine RG.runG ty_ok 0 400 rfl ?_) | ((with_reducible refine AW.draws mixed_ok ?_); refine RG.runG ty_ok 0 400 rfl ?_))); refine AW.ret (retQ1 rfl rfl rfl ?_)
        rfl
      · obtain rfl : b = false := by cases b <;> simp_all
        refine RG.runO ty_ok 0 [(9, .b true), (15, .b true), (22, .b false)] 400 rfl ⟨congrArg AV.b (decide_eq_false h3), congrArg AV.b (decide_eq_true h2), congrArg AV.b (decide_eq_true h1), trivial⟩ ?_
        refine RG.runG ty_ok 0 400 rfl ?_; (repeat (first | with_reducible refine AW.seq ?_ | with_reducible refine AW.skip ?_ | with_reducible refine AW.block ?_ | ((with_reducible refine RG.id ?_); refine RG.nil ⟨?_, ?_⟩; · kernel_rfl) | ((with_reducible refine RG.id ?_); refine RG.nil ?_) | ((with_reducible refine AW.text ?_); refine RG.runG ty_ok 0 400 rfl ?_) | ((with_reducible refine AW.draws mixed_ok ?_); refine RG.runG ty_ok 0 400 rfl ?_))); refine AW.ret (retQ1 rfl rfl rfl ?_)
        rfl
    · obtain rfl : b = false := by cases b <;> simp_all
      refine RG.runO ty_ok 0 [(9, .b true), (15, .b false)] 400 rfl ⟨congrArg AV.b (decide_eq_false h2), congrArg AV.b (decide_eq_true h1), trivial⟩ ?_
      refine RG.runG ty_ok 0 400 rfl ?_; (repeat (first | with_reducible refine AW.seq ?_ | with_reducible refine AW.skip ?_ | with_reducible refine AW.block ?_ | ((with_reducible refine RG.id ?_); refine RG.nil ⟨?_, ?_⟩; · kernel_rfl) | ((with_reducible refine RG.id ?_); refine RG.nil ?_) | ((with_reducible refine AW.text ?_); refine RG.runG ty_ok 0 400 rfl ?_) | ((with_reducible refine AW.draws mixed_ok ?_); refine RG.runG ty_ok 0 400 rfl ?_))); refine AW.ret (retQ1 rfl rfl rfl ?_)
      rfl
  · obtain rfl : b = false := by cases b <;> simp_all
    refine RG.runO ty_ok 0 [(9, .b false)] 400 rfl ⟨congrArg AV.b (decide_eq_false h1), trivial⟩ ?_
    refine RG.runG ty_ok 0 400 rfl ?_; (repeat (first | with_reducible refine AW.seq ?_ | with_reducible refine AW.skip ?_ | with_reducible refine AW.block ?_ | ((with_reducible refine RG.id ?_); refine RG.nil ⟨?_, ?_⟩; · kernel_rfl) | ((with_reducible refine RG.id ?_); refine RG.nil ?_) | ((with_reducible refine AW.text ?_); refine RG.runG ty_ok 0 400 rfl ?_) | ((with_reducible refine AW.draws mixed_ok ?_); refine RG.runG ty_ok 0 400 rfl ?_))); refine AW.ret (retQ1 rfl rfl rfl ?_)
    rfl
theorem d_told (xs ys : List En) (b : Bool) (hb : b = true ↔ xs = ys) (hx : xs.length ≤ 1000000000000) : PDoes Try.prog 33 [.sl (xs.map enC), .sl (ys.map enC)] (.b b) := by
  refine PDoes.of_bodyN Try.func33 rfl (by kernel_rfl) rfl rfl ?_
  skip; (repeat (first | with_reducible refine AW.seq ?_ | with_reducible refine AW.skip ?_ | with_reducible refine AW.block ?_ | ((with_reducible refine RG.id ?_); refine RG.nil ⟨?_, ?_⟩; · kernel_rfl) | ((with_reducible refine RG.id ?_); refine RG.nil ?_) | ((with_reducible refine AW.text ?_); refine RG.runG ty_ok 0 400 rfl ?_) | ((with_reducible refine AW.draws mixed_ok ?_); refine RG.runG ty_ok 0 400 rfl ?_)))
  refine AW.cond rfl (fun h => ?_) (fun h => ?_)
  · obtain rfl : b = false := by
      have h : ¬ (xs.length : Int) = ys.length := by simpa using h
      have h : ¬ xs.length = ys.length := fun e => h (congrArg Nat.cast e)
      cases b
      · rfl
      · exact absurd (congrArg List.length (hb.1 rfl)) h
    skip; (repeat (first | with_reducible refine AW.seq ?_ | with_reducible refine AW.skip ?_ | with_reducible refine AW.block ?_ | ((with_reducible refine RG.id ?_); refine RG.nil ⟨?_, ?_⟩; · kernel_rfl) | ((with_reducible refine RG.id ?_); refine RG.nil ?_) | ((with_reducible refine AW.text ?_); refine RG.runG ty_ok 0 400 rfl ?_) | ((with_reducible refine AW.draws mixed_ok ?_); refine RG.runG ty_ok 0 400 rfl ?_))); refine AW.ret (retQ1 rfl rfl rfl ?_)
    rfl
  · have hl : xs.length = ys.length := by
      have h : ¬ ((((xs.map enC).length : Nat) : Int) ≠ ((ys.map enC).length : Nat)) := by simpa using h
      simp only [List.length_map] at h
      omega
    skip; (repeat (first | with_reducible refine AW.seq ?_ | with_reducible refine AW.skip ?_ | with_reducible refine AW.block ?_ | ((with_reducible refine RG.id ?_); refine RG.nil ⟨?_, ?_⟩; · kernel_rfl) | ((with_reducible refine RG.id ?_); refine RG.nil ?_) | ((with_reducible refine AW.text ?_); refine RG.runG ty_ok 0 400 rfl ?_) | ((with_reducible refine AW.draws mixed_ok ?_); refine RG.runG ty_ok 0 400 rfl ?_)))
    refine AW.loopL (ι := Nat) (fun k => [(0, .sl (xs.map enC)), (1, .sl (ys.map enC)), (5, .i .i64 (k : Nat))]) (fun _ => []) (fun k => k ≤ xs.length ∧ xs.take k = ys.take k) (fun k => xs.length - k) 0 ⟨Nat.zero_le _, rfl⟩ (by first | exact trivial | (repeat (first | exact trivial | refine ⟨Rn.is rfl rfl, ?_⟩ | refine ⟨Rn.ownIs rfl rfl rfl, ?_⟩ | refine ⟨Rn.rowIs rfl rfl rfl, ?_⟩ | refine ⟨WkB1.row rfl rfl, ?_⟩ | refine ⟨WkB1.same rfl rfl rfl, ?_⟩))) (by first | exact trivial | (repeat (first | exact trivial | refine ⟨Rn.is rfl rfl, ?_⟩ | refine ⟨Rn.ownIs rfl rfl rfl, ?_⟩ | refine ⟨Rn.rowIs rfl rfl rfl, ?_⟩ | refine ⟨WkB1.row rfl rfl, ?_⟩ | refine ⟨WkB1.same rfl rfl rfl, ?_⟩))) fun k ⟨hk, he⟩ => ?_
    skip; (repeat (first | with_reducible refine AW.seq ?_ | with_reducible refine AW.skip ?_ | with_reducible refine AW.block ?_ | ((with_reducible refine RG.id ?_); refine RG.nil ⟨?_, ?_⟩; · kernel_rfl) | ((with_reducible refine RG.id ?_); refine RG.nil ?_) | ((with_reducible refine AW.text ?_); refine RG.runG ty_ok 0 400 rfl ?_) | ((with_reducible refine AW.draws mixed_ok ?_); refine RG.runG ty_ok 0 400 rfl ?_)))
    refine AW.cond rfl (fun h => ?_) (fun h => ?_)
    · skip
      skip; (repeat (first | with_reducible refine AW.seq ?_ | with_reducible refine AW.skip ?_ | with_reducible refine AW.block ?_ | ((with_reducible refine RG.id ?_); refine RG.nil ⟨?_, ?_⟩; · kernel_rfl) | ((with_reducible refine RG.id ?_); refine RG.nil ?_) | ((with_reducible refine AW.text ?_); refine RG.runG ty_ok 0 400 rfl ?_) | ((with_reducible refine AW.draws mixed_ok ?_); refine RG.runG ty_ok 0 400 rfl ?_)))
      have h : k < xs.length := by simpa using h
      refine RG.opS rfl (op_index rfl (tab_ok ty_ok rfl) rfl (tab_ok ty_ok rfl) rfl rfl (show (xs.map enC)[k]? = some (enC xs[k]) by simp [h]) rfl) rfl ?_
      refine RG.runG ty_ok 0 400 rfl ?_; (repeat (first | with_reducible refine AW.seq ?_ | with_reducible refine AW.skip ?_ | with_reducible refine AW.block ?_ | ((with_reducible refine RG.id ?_); refine RG.nil ⟨?_, ?_⟩; · kernel_rfl) | ((with_reducible refine RG.id ?_); refine RG.nil ?_) | ((with_reducible refine AW.text ?_); refine RG.runG ty_ok 0 400 rfl ?_) | ((with_reducible refine AW.draws mixed_ok ?_); refine RG.runG ty_ok 0 400 rfl ?_)))
      refine RG.opS rfl (op_index rfl (tab_ok ty_ok rfl) rfl (tab_ok ty_ok rfl) rfl rfl (show (ys.map enC)[k]? = some (enC ys[k]) by simp [← hl, h]) rfl) rfl ?_
      refine RG.runG ty_ok 0 400 rfl ?_; (repeat (first | with_reducible refine AW.seq ?_ | with_reducible refine AW.skip ?_ | with_reducible refine AW.block ?_ | ((with_reducible refine RG.id ?_); refine RG.nil ⟨?_, ?_⟩; · kernel_rfl) | ((with_reducible refine RG.id ?_); refine RG.nil ?_) | ((with_reducible refine AW.text ?_); refine RG.runG ty_ok 0 400 rfl ?_) | ((with_reducible refine AW.draws mixed_ok ?_); refine RG.runG ty_ok 0 400 rfl ?_)))
      by_cases hxy : xs[k] = ys[k]
      · refine RG.callS rfl rfl rfl rfl rfl (d_same xs[k] ys[k] true (by simp [hxy])) rfl rfl ?_
        refine RG.runG ty_ok 0 400 rfl ?_; (repeat (first | with_reducible refine AW.seq ?_ | with_reducible refine AW.skip ?_ | with_reducible refine AW.block ?_ | ((with_reducible refine RG.id ?_); refine RG.nil ⟨?_, ?_⟩; · kernel_rfl) | ((with_reducible refine RG.id ?_); refine RG.nil ?_) | ((with_reducible refine AW.text ?_); refine RG.runG ty_ok 0 400 rfl ?_) | ((with_reducible refine AW.draws mixed_ok ?_); refine RG.runG ty_ok 0 400 rfl ?_))); refine AW.condF rfl ?_; skip; (repeat (first | with_reducible refine AW.seq ?_ | with_reducible refine AW.skip ?_ | with_reducible refine AW.block ?_ | ((with_reducible refine RG.id ?_); refine RG.nil ⟨?_, ?_⟩; · kernel_rfl) | ((with_reducible refine RG.id ?_); refine RG.nil ?_) | ((with_reducible refine AW.text ?_); refine RG.runG ty_ok 0 400 rfl ?_) | ((with_reducible refine AW.draws mixed_ok ?_); refine RG.runG ty_ok 0 400 rfl ?_)))
        refine ⟨k + 1, ⟨⟨by omega, ?_⟩, by omega⟩, ⟨Rn.is rfl rfl, Rn.is rfl rfl, .is (i64_next h (by omega)) rfl, trivial⟩, trivial⟩
        rw [List.take_succ_eq_append_getElem h, List.take_succ_eq_append_getElem (show k < ys.length by omega), he, hxy]
      · refine RG.callS rfl rfl rfl rfl rfl (d_same xs[k] ys[k] false (by simp [hxy])) rfl rfl ?_
        refine RG.runG ty_ok 0 400 rfl ?_; (repeat (first | with_reducible refine AW.seq ?_ | with_reducible refine AW.skip ?_ | with_reducible refine AW.block ?_ | ((with_reducible refine RG.id ?_); refine RG.nil ⟨?_, ?_⟩; · kernel_rfl) | ((with_reducible refine RG.id ?_); refine RG.nil ?_) | ((with_reducible refine AW.text ?_); refine RG.runG ty_ok 0 400 rfl ?_) | ((with_reducible refine AW.draws mixed_ok ?_); refine RG.runG ty_ok 0 400 rfl ?_))); refine AW.condT rfl ?_; skip; (repeat (first | with_reducible refine AW.seq ?_ | with_reducible refine AW.skip ?_ | with_reducible refine AW.block ?_ | ((with_reducible refine RG.id ?_); refine RG.nil ⟨?_, ?_⟩; · kernel_rfl) | ((with_reducible refine RG.id ?_); refine RG.nil ?_) | ((with_reducible refine AW.text ?_); refine RG.runG ty_ok 0 400 rfl ?_) | ((with_reducible refine AW.draws mixed_ok ?_); refine RG.runG ty_ok 0 400 rfl ?_)))
        obtain rfl : b = false := by
          cases b
          · rfl
          · obtain rfl := hb.1 rfl
            exact absurd rfl hxy
        refine AW.ret (retQ1 rfl rfl rfl ?_)
        rfl
    · skip
      skip; (repeat (first | with_reducible refine AW.seq ?_ | with_reducible refine AW.skip ?_ | with_reducible refine AW.block ?_ | ((with_reducible refine RG.id ?_); refine RG.nil ⟨?_, ?_⟩; · kernel_rfl) | ((with_reducible refine RG.id ?_); refine RG.nil ?_) | ((with_reducible refine AW.text ?_); refine RG.runG ty_ok 0 400 rfl ?_) | ((with_reducible refine AW.draws mixed_ok ?_); refine RG.runG ty_ok 0 400 rfl ?_)))
      refine AW.exit ?_
      refine Eq.mpr (if_pos rfl) ?_
      skip; (repeat (first | with_reducible refine AW.seq ?_ | with_reducible refine AW.skip ?_ | with_reducible refine AW.block ?_ | ((with_reducible refine RG.id ?_); refine RG.nil ⟨?_, ?_⟩; · kernel_rfl) | ((with_reducible refine RG.id ?_); refine RG.nil ?_) | ((with_reducible refine AW.text ?_); refine RG.runG ty_ok 0 400 rfl ?_) | ((with_reducible refine AW.draws mixed_ok ?_); refine RG.runG ty_ok 0 400 rfl ?_)))
      have h : ¬ k < xs.length := by simpa using h
      obtain rfl : b = true := by
        rw [hb]
        rw [List.take_of_length_le (by omega), List.take_of_length_le (by omega)] at he
        exact he
      refine AW.ret (retQ1 rfl rfl rfl ?_)
      rfl
def big {α : Type} (l : List α) : Bool := decide (200 < l.length)
def lg0 (c : Cfg) : Bool := big c.ports || (big c.peers || (big c.ways || big c.tables))
def lg1 (c : Cfg) (k : Nat) : Bool := lg0 c || (c.ports.take k).any big
def lgT (t : List (List Rl)) (k : Nat) : Bool := big t || (t.take k).any big
def lg2 (c : Cfg) (k : Nat) : Bool := lg1 c c.ports.length || (c.tables.take k).any fun t => lgT t t.length
theorem big_not {α : Type} (l : List α) : big l = !decide (l.length ≤ 200) := by
  unfold big
  by_cases h : l.length ≤ 200
  · rw [decide_eq_false (by omega), decide_eq_true h]; rfl
  · rw [decide_eq_true (by omega), decide_eq_false h]; rfl
theorem all_yes {α : Type} (l : List α) : l.all yes = true := by simp [yes]
theorem not_fitL {α : Type} (f g : α → Bool) (hg : ∀ x, g x = !f x) (l : List α) : (!fitL f l) = (big l || l.any g) := by
  rw [fitL, Bool.not_and, big_not, List.not_all_eq_any_not]
  congr 2
  funext x
  exact (hg x).symm
theorem lg2_fit (c : Cfg) : lg2 c c.tables.length = !c.fit := by
  have h1 : (!fitL portsFit c.ports) = (big c.ports || c.ports.any big) := not_fitL _ _ (fun x => by rw [portsFit, fitL, all_yes, Bool.and_true, big_not]) _
  have h2 : (!fitL (yes : Pr → Bool) c.peers) = big c.peers := by rw [fitL, all_yes, Bool.and_true, big_not]
  have h3 : (!fitL (yes : Wy → Bool) c.ways) = big c.ways := by rw [fitL, all_yes, Bool.and_true, big_not]
  have h4 : (!fitL tablesFit c.tables) = (big c.tables || c.tables.any fun t => lgT t t.length) := not_fitL _ _ (fun t => by
    rw [lgT, List.take_length, tablesFit]
    exact (not_fitL _ _ (fun r => by rw [rulesFit, fitL, all_yes, Bool.and_true, big_not]) _).symm) _
  rw [Cfg.fit, Bool.not_and, Bool.not_and, Bool.not_and, h1, h2, h3, h4, lg2, lg1, lg0, List.take_length, List.take_length]
  cases big c.ports <;> cases big c.peers <;> cases big c.ways <;> cases big c.tables <;> simp
theorem any_next {α : Type} {f : α → Bool} {l : List α} {k : Nat} {x : α} (h : l[k]? = some x) : (l.take (k + 1)).any f = ((l.take k).any f || f x) := by
  rw [List.take_add_one, h, List.any_append]
  simp
theorem big_dec {α β : Type} (f : α → β) (l : List α) : decide ((200 : Int) < ((l.map f).length : Nat)) = big l := by
  rw [List.length_map]
  exact decide_eq_decide.2 (by omega)
theorem d_long (e : En) : PDoes Try.prog 28 [.agg (enC e)] (.b (!e.cfg.fit)) := by
  refine PDoes.of_bodyN Try.func28 rfl (by kernel_rfl) rfl rfl ?_
  skip; (repeat (first | with_reducible refine AW.seq ?_ | with_reducible refine AW.skip ?_ | with_reducible refine AW.block ?_ | ((with_reducible refine RG.id ?_); refine RG.nil ⟨?_, ?_⟩; · kernel_rfl) | ((with_reducible refine RG.id ?_); refine RG.nil ?_))); refine AW.text ?_; refine RG.runG ty_ok 0 400 rfl ?_; (repeat (first | with_reducible refine AW.seq ?_ | with_reducible refine AW.skip ?_ | with_reducible refine AW.block ?_ | ((with_reducible refine RG.id ?_); refine RG.nil ⟨?_, ?_⟩; · kernel_rfl) | ((with_reducible refine RG.id ?_); refine RG.nil ?_))); refine AW.text ?_; refine RG.runG ty_ok 0 400 rfl ?_; (repeat (first | with_reducible refine AW.seq ?_ | with_reducible refine AW.skip ?_ | with_reducible refine AW.block ?_ | ((with_reducible refine RG.id ?_); refine RG.nil ⟨?_, ?_⟩; · kernel_rfl) | ((with_reducible refine RG.id ?_); refine RG.nil ?_)))
  have d1 := big_dec encPts e.cfg.ports
  have d2 := big_dec encPr e.cfg.peers
  have d3 := big_dec encWy e.cfg.ways
  have d4 := big_dec encTab e.cfg.tables
  refine AW.cutT (ι := Unit) (fun _ => [(3, .own 3 0 0), (4, .b (lg0 e.cfg))]) (fun _ => [(3, ⟨0, some (.box 31 (cfgC e.cfg))⟩)]) (fun _ => True) ?_ fun _ _ => ?_
  · refine AW.text ?_
    cases h1 : big e.cfg.ports
    · cases h2 : big e.cfg.peers
      · cases h3 : big e.cfg.ways
        · refine RG.runO ty_ok 0 [(14, .b false), (20, .b false), (27, .b false), (33, .b (big e.cfg.tables))] 400 rfl ⟨congrArg AV.b d4, congrArg AV.b (d3.trans h3), congrArg AV.b (d2.trans h2), congrArg AV.b (d1.trans h1), trivial⟩ ?_
          skip; (repeat (first | with_reducible refine AW.seq ?_ | with_reducible refine AW.skip ?_ | with_reducible refine AW.block ?_ | ((with_reducible refine RG.id ?_); refine RG.nil ⟨?_, ?_⟩; · kernel_rfl) | ((with_reducible refine RG.id ?_); refine RG.nil ?_)))
          exact ⟨(), trivial, ⟨Rn.ownIs rfl rfl rfl, .is (by rw [lg0, h1, h2, h3]; rfl) rfl, trivial⟩, .same rfl rfl rfl, trivial⟩
        · refine RG.runO ty_ok 0 [(14, .b false), (20, .b false), (27, .b true)] 400 rfl ⟨congrArg AV.b (d3.trans h3), congrArg AV.b (d2.trans h2), congrArg AV.b (d1.trans h1), trivial⟩ ?_
          skip; (repeat (first | with_reducible refine AW.seq ?_ | with_reducible refine AW.skip ?_ | with_reducible refine AW.block ?_ | ((with_reducible refine RG.id ?_); refine RG.nil ⟨?_, ?_⟩; · kernel_rfl) | ((with_reducible refine RG.id ?_); refine RG.nil ?_)))
          exact ⟨(), trivial, ⟨Rn.ownIs rfl rfl rfl, .is (by rw [lg0, h1, h2, h3]; rfl) rfl, trivial⟩, .same rfl rfl rfl, trivial⟩
      · refine RG.runO ty_ok 0 [(14, .b false), (20, .b true)] 400 rfl ⟨congrArg AV.b (d2.trans h2), congrArg AV.b (d1.trans h1), trivial⟩ ?_
        skip; (repeat (first | with_reducible refine AW.seq ?_ | with_reducible refine AW.skip ?_ | with_reducible refine AW.block ?_ | ((with_reducible refine RG.id ?_); refine RG.nil ⟨?_, ?_⟩; · kernel_rfl) | ((with_reducible refine RG.id ?_); refine RG.nil ?_)))
        exact ⟨(), trivial, ⟨Rn.ownIs rfl rfl rfl, .is (by rw [lg0, h1, h2]; rfl) rfl, trivial⟩, .same rfl rfl rfl, trivial⟩
    · refine RG.runO ty_ok 0 [(14, .b true)] 400 rfl ⟨congrArg AV.b (d1.trans h1), trivial⟩ ?_
      skip; (repeat (first | with_reducible refine AW.seq ?_ | with_reducible refine AW.skip ?_ | with_reducible refine AW.block ?_ | ((with_reducible refine RG.id ?_); refine RG.nil ⟨?_, ?_⟩; · kernel_rfl) | ((with_reducible refine RG.id ?_); refine RG.nil ?_)))
      exact ⟨(), trivial, ⟨Rn.ownIs rfl rfl rfl, .is (by rw [lg0, h1]; rfl) rfl, trivial⟩, .same rfl rfl rfl, trivial⟩
  skip; (repeat (first | with_reducible refine AW.seq ?_ | with_reducible refine AW.skip ?_ | with_reducible refine AW.block ?_ | ((with_reducible refine RG.id ?_); refine RG.nil ⟨?_, ?_⟩; · kernel_rfl) | ((with_reducible refine RG.id ?_); refine RG.nil ?_) | ((with_reducible refine AW.text ?_); refine RG.runG ty_ok 0 400 rfl ?_) | ((with_reducible refine AW.draws mixed_ok ?_); refine RG.runG ty_ok 0 400 rfl ?_)))
  refine AW.loopL (ι := Nat) (fun k => [(3, .own 3 0 0), (4, .b (lg1 e.cfg k)), (5, .i .i64 (k : Nat))]) (fun _ => [(3, ⟨0, some (.box 31 (cfgC e.cfg))⟩)]) (fun k => k ≤ e.cfg.ports.length) (fun k => e.cfg.ports.length - k) 0 (Nat.zero_le _) ⟨Rn.ownIs rfl rfl rfl, .is (congrArg AV.b (show lg0 e.cfg = lg1 e.cfg 0 by simp [lg1])) rfl, Rn.is rfl rfl, trivial⟩ ⟨.same rfl rfl rfl, trivial⟩ fun k hk => ?_
  refine AW.lensB 3 rfl 0 rfl fun hmx => ?_
  rw [List.length_map] at hmx
  skip; (repeat (first | with_reducible refine AW.seq ?_ | with_reducible refine AW.skip ?_ | with_reducible refine AW.block ?_ | ((with_reducible refine RG.id ?_); refine RG.nil ⟨?_, ?_⟩; · kernel_rfl) | ((with_reducible refine RG.id ?_); refine RG.nil ?_) | ((with_reducible refine AW.text ?_); refine RG.runG ty_ok 0 400 rfl ?_) | ((with_reducible refine AW.draws mixed_ok ?_); refine RG.runG ty_ok 0 400 rfl ?_)))
  refine AW.cond rfl (fun h => ?_) (fun h => ?_)
  · have h : k < e.cfg.ports.length := by simpa using h
    have hx : e.cfg.ports[k]? = some e.cfg.ports[k] := List.getElem?_eq_getElem h
    have hn : lg1 e.cfg (k + 1) = (lg1 e.cfg k || big e.cfg.ports[k]) := by rw [lg1, any_next hx, ← Bool.or_assoc]; rfl
    skip; (repeat (first | with_reducible refine AW.seq ?_ | with_reducible refine AW.skip ?_ | with_reducible refine AW.block ?_ | ((with_reducible refine RG.id ?_); refine RG.nil ⟨?_, ?_⟩; · kernel_rfl) | ((with_reducible refine RG.id ?_); refine RG.nil ?_)))
    generalize ho : lg1 e.cfg k = o at hn
    cases o
    · skip; (repeat (first | with_reducible refine AW.seq ?_ | with_reducible refine AW.skip ?_ | with_reducible refine AW.block ?_ | ((with_reducible refine RG.id ?_); refine RG.nil ⟨?_, ?_⟩; · kernel_rfl) | ((with_reducible refine RG.id ?_); refine RG.nil ?_) | ((with_reducible refine AW.text ?_); refine RG.runG ty_ok 0 400 rfl ?_) | ((with_reducible refine AW.draws mixed_ok ?_); refine RG.runG ty_ok 0 400 rfl ?_)))
      refine RG.opS rfl (op_index rfl (tab_ok ty_ok rfl) rfl (tab_ok ty_ok rfl) rfl rfl (show (e.cfg.ports.map encPts)[k]? = some (encPts e.cfg.ports[k]) by simp [h]) rfl) rfl ?_
      refine RG.runO ty_ok 0 [(52, .b (big e.cfg.ports[k]))] 400 rfl ⟨congrArg AV.b (big_dec encPt _), trivial⟩ ?_
      skip; (repeat (first | with_reducible refine AW.seq ?_ | with_reducible refine AW.skip ?_ | with_reducible refine AW.block ?_ | ((with_reducible refine RG.id ?_); refine RG.nil ⟨?_, ?_⟩; · kernel_rfl) | ((with_reducible refine RG.id ?_); refine RG.nil ?_) | ((with_reducible refine AW.text ?_); refine RG.runG ty_ok 0 400 rfl ?_) | ((with_reducible refine AW.draws mixed_ok ?_); refine RG.runG ty_ok 0 400 rfl ?_)))
      exact ⟨k + 1, ⟨by omega, by omega⟩, ⟨Rn.ownIs rfl rfl rfl, .is (congrArg AV.b hn.symm) rfl, .is (i64_next h hmx) rfl, trivial⟩, .same rfl rfl rfl, trivial⟩
    · skip; (repeat (first | with_reducible refine AW.seq ?_ | with_reducible refine AW.skip ?_ | with_reducible refine AW.block ?_ | ((with_reducible refine RG.id ?_); refine RG.nil ⟨?_, ?_⟩; · kernel_rfl) | ((with_reducible refine RG.id ?_); refine RG.nil ?_) | ((with_reducible refine AW.text ?_); refine RG.runG ty_ok 0 400 rfl ?_) | ((with_reducible refine AW.draws mixed_ok ?_); refine RG.runG ty_ok 0 400 rfl ?_)))
      exact ⟨k + 1, ⟨by omega, by omega⟩, ⟨Rn.ownIs rfl rfl rfl, .is (congrArg AV.b hn.symm) rfl, .is (i64_next h hmx) rfl, trivial⟩, .same rfl rfl rfl, trivial⟩
  have h : ¬ k < e.cfg.ports.length := by simpa using h
  obtain rfl : k = e.cfg.ports.length := by omega
  skip; (repeat (first | with_reducible refine AW.seq ?_ | with_reducible refine AW.skip ?_ | with_reducible refine AW.block ?_ | ((with_reducible refine RG.id ?_); refine RG.nil ⟨?_, ?_⟩; · kernel_rfl) | ((with_reducible refine RG.id ?_); refine RG.nil ?_) | ((with_reducible refine AW.text ?_); refine RG.runG ty_ok 0 400 rfl ?_) | ((with_reducible refine AW.draws mixed_ok ?_); refine RG.runG ty_ok 0 400 rfl ?_)))
  refine AW.exit ?_
  refine Eq.mpr (if_pos rfl) ?_
  skip; (repeat (first | with_reducible refine AW.seq ?_ | with_reducible refine AW.skip ?_ | with_reducible refine AW.block ?_ | ((with_reducible refine RG.id ?_); refine RG.nil ⟨?_, ?_⟩; · kernel_rfl) | ((with_reducible refine RG.id ?_); refine RG.nil ?_) | ((with_reducible refine AW.text ?_); refine RG.runG ty_ok 0 400 rfl ?_) | ((with_reducible refine AW.draws mixed_ok ?_); refine RG.runG ty_ok 0 400 rfl ?_)))
  refine AW.loopL (ι := Nat) (fun k => [(3, .own 3 0 0), (4, .b (lg2 e.cfg k)), (6, .i .i64 (k : Nat))]) (fun _ => [(3, ⟨0, some (.box 31 (cfgC e.cfg))⟩)]) (fun k => k ≤ e.cfg.tables.length) (fun k => e.cfg.tables.length - k) 0 (Nat.zero_le _) ⟨Rn.ownIs rfl rfl rfl, .is (congrArg AV.b (show lg1 e.cfg e.cfg.ports.length = lg2 e.cfg 0 by simp [lg2])) rfl, Rn.is rfl rfl, trivial⟩ ⟨.same rfl rfl rfl, trivial⟩ fun k hk => ?_
  refine AW.lensB 3 rfl 4 rfl fun hmx => ?_
  rw [List.length_map] at hmx
  skip; (repeat (first | with_reducible refine AW.seq ?_ | with_reducible refine AW.skip ?_ | with_reducible refine AW.block ?_ | ((with_reducible refine RG.id ?_); refine RG.nil ⟨?_, ?_⟩; · kernel_rfl) | ((with_reducible refine RG.id ?_); refine RG.nil ?_) | ((with_reducible refine AW.text ?_); refine RG.runG ty_ok 0 400 rfl ?_) | ((with_reducible refine AW.draws mixed_ok ?_); refine RG.runG ty_ok 0 400 rfl ?_)))
  refine AW.cond rfl (fun h => ?_) (fun h => ?_)
  · have h : k < e.cfg.tables.length := by simpa using h
    have hx : e.cfg.tables[k]? = some e.cfg.tables[k] := List.getElem?_eq_getElem h
    have hidx : (e.cfg.tables.map encTab)[k]? = some (encTab e.cfg.tables[k]) := by simp [h]
    have hn : lg2 e.cfg (k + 1) = (lg2 e.cfg k || lgT e.cfg.tables[k] e.cfg.tables[k].length) := by rw [lg2, any_next hx, ← Bool.or_assoc]; rfl
    skip; (repeat (first | with_reducible refine AW.seq ?_ | with_reducible refine AW.skip ?_ | with_reducible refine AW.block ?_ | ((with_reducible refine RG.id ?_); refine RG.nil ⟨?_, ?_⟩; · kernel_rfl) | ((with_reducible refine RG.id ?_); refine RG.nil ?_)))
    refine AW.cutT (ι := Unit) (fun _ => [(3, .own 3 0 0), (4, .b (lg2 e.cfg k || lgT e.cfg.tables[k] 0)), (6, .i .i64 (k : Nat))]) (fun _ => [(3, ⟨0, some (.box 31 (cfgC e.cfg))⟩)]) (fun _ => True) ?_ fun _ _ => ?_
    · have hT : lgT e.cfg.tables[k] 0 = big e.cfg.tables[k] := by simp [lgT]
      rw [hT]
      generalize ho : lg2 e.cfg k = o
      cases o
      · skip; (repeat (first | with_reducible refine AW.seq ?_ | with_reducible refine AW.skip ?_ | with_reducible refine AW.block ?_ | ((with_reducible refine RG.id ?_); refine RG.nil ⟨?_, ?_⟩; · kernel_rfl) | ((with_reducible refine RG.id ?_); refine RG.nil ?_) | ((with_reducible refine AW.text ?_); refine RG.runG ty_ok 0 400 rfl ?_) | ((with_reducible refine AW.draws mixed_ok ?_); refine RG.runG ty_ok 0 400 rfl ?_)))
        refine RG.opS rfl (op_index rfl (tab_ok ty_ok rfl) rfl (tab_ok ty_ok rfl) rfl rfl hidx rfl) rfl ?_
        refine RG.runO ty_ok 0 [(69, .b (big e.cfg.tables[k]))] 400 rfl ⟨congrArg AV.b (big_dec encRls _), trivial⟩ ?_
        skip; (repeat (first | with_reducible refine AW.seq ?_ | with_reducible refine AW.skip ?_ | with_reducible refine AW.block ?_ | ((with_reducible refine RG.id ?_); refine RG.nil ⟨?_, ?_⟩; · kernel_rfl) | ((with_reducible refine RG.id ?_); refine RG.nil ?_) | ((with_reducible refine AW.text ?_); refine RG.runG ty_ok 0 400 rfl ?_) | ((with_reducible refine AW.draws mixed_ok ?_); refine RG.runG ty_ok 0 400 rfl ?_)))
        exact ⟨(), trivial, ⟨Rn.ownIs rfl rfl rfl, .is rfl rfl, .is rfl rfl, trivial⟩, .same rfl rfl rfl, trivial⟩
      · skip; (repeat (first | with_reducible refine AW.seq ?_ | with_reducible refine AW.skip ?_ | with_reducible refine AW.block ?_ | ((with_reducible refine RG.id ?_); refine RG.nil ⟨?_, ?_⟩; · kernel_rfl) | ((with_reducible refine RG.id ?_); refine RG.nil ?_) | ((with_reducible refine AW.text ?_); refine RG.runG ty_ok 0 400 rfl ?_) | ((with_reducible refine AW.draws mixed_ok ?_); refine RG.runG ty_ok 0 400 rfl ?_)))
        exact ⟨(), trivial, ⟨Rn.ownIs rfl rfl rfl, .is rfl rfl, .is rfl rfl, trivial⟩, .same rfl rfl rfl, trivial⟩
    skip; (repeat (first | with_reducible refine AW.seq ?_ | with_reducible refine AW.skip ?_ | with_reducible refine AW.block ?_ | ((with_reducible refine RG.id ?_); refine RG.nil ⟨?_, ?_⟩; · kernel_rfl) | ((with_reducible refine RG.id ?_); refine RG.nil ?_) | ((with_reducible refine AW.text ?_); refine RG.runG ty_ok 0 400 rfl ?_) | ((with_reducible refine AW.draws mixed_ok ?_); refine RG.runG ty_ok 0 400 rfl ?_)))
    refine AW.loopL (ι := Nat) (fun j => [(3, .own 3 0 0), (4, .b (lg2 e.cfg k || lgT e.cfg.tables[k] j)), (6, .i .i64 (k : Nat)), (7, .i .i64 (j : Nat))]) (fun _ => [(3, ⟨0, some (.box 31 (cfgC e.cfg))⟩)]) (fun j => j ≤ e.cfg.tables[k].length) (fun j => e.cfg.tables[k].length - j) 0 (Nat.zero_le _) ⟨Rn.ownIs rfl rfl rfl, Rn.is rfl rfl, Rn.is rfl rfl, Rn.is rfl rfl, trivial⟩ ⟨.same rfl rfl rfl, trivial⟩ fun j hj => ?_
    skip; (repeat (first | with_reducible refine AW.seq ?_ | with_reducible refine AW.skip ?_ | with_reducible refine AW.block ?_ | ((with_reducible refine RG.id ?_); refine RG.nil ⟨?_, ?_⟩; · kernel_rfl) | ((with_reducible refine RG.id ?_); refine RG.nil ?_) | ((with_reducible refine AW.text ?_); refine RG.runG ty_ok 0 400 rfl ?_) | ((with_reducible refine AW.draws mixed_ok ?_); refine RG.runG ty_ok 0 400 rfl ?_)))
    refine RG.opS rfl (op_index rfl (tab_ok ty_ok rfl) rfl (tab_ok ty_ok rfl) rfl rfl hidx rfl) rfl ?_
    refine RG.runG ty_ok 0 400 rfl ?_; (repeat (first | with_reducible refine AW.seq ?_ | with_reducible refine AW.skip ?_ | with_reducible refine AW.block ?_ | ((with_reducible refine RG.id ?_); refine RG.nil ⟨?_, ?_⟩; · kernel_rfl) | ((with_reducible refine RG.id ?_); refine RG.nil ?_) | ((with_reducible refine AW.text ?_); refine RG.runG ty_ok 0 400 rfl ?_) | ((with_reducible refine AW.draws mixed_ok ?_); refine RG.runG ty_ok 0 400 rfl ?_)))
    refine AW.lens 76 rfl fun hm2 => ?_
    rw [List.length_map] at hm2
    refine AW.cond rfl (fun hj2 => ?_) (fun hj2 => ?_)
    · have hj2 : j < e.cfg.tables[k].length := by simpa using hj2
      have hx2 : e.cfg.tables[k][j]? = some e.cfg.tables[k][j] := List.getElem?_eq_getElem hj2
      have hn2 : (lg2 e.cfg k || lgT e.cfg.tables[k] (j + 1)) = ((lg2 e.cfg k || lgT e.cfg.tables[k] j) || big e.cfg.tables[k][j]) := by rw [lgT, any_next hx2, lgT]; simp only [Bool.or_assoc]
      skip; (repeat (first | with_reducible refine AW.seq ?_ | with_reducible refine AW.skip ?_ | with_reducible refine AW.block ?_ | ((with_reducible refine RG.id ?_); refine RG.nil ⟨?_, ?_⟩; · kernel_rfl) | ((with_reducible refine RG.id ?_); refine RG.nil ?_)))
      refine AW.only [(3, .own 3 0 0), (4, .b (lg2 e.cfg k || lgT e.cfg.tables[k] j)), (6, .i .i64 (k : Nat)), (7, .i .i64 (j : Nat))] [(3, ⟨0, some (.box 31 (cfgC e.cfg))⟩)] ⟨Rn.ownIs rfl rfl rfl, Rn.is rfl rfl, Rn.is rfl rfl, Rn.is rfl rfl, trivial⟩ ⟨.same rfl rfl rfl, trivial⟩ ?_
      generalize ho : (lg2 e.cfg k || lgT e.cfg.tables[k] j) = o at hn2
      cases o
      · skip; (repeat (first | with_reducible refine AW.seq ?_ | with_reducible refine AW.skip ?_ | with_reducible refine AW.block ?_ | ((with_reducible refine RG.id ?_); refine RG.nil ⟨?_, ?_⟩; · kernel_rfl) | ((with_reducible refine RG.id ?_); refine RG.nil ?_) | ((with_reducible refine AW.text ?_); refine RG.runG ty_ok 0 400 rfl ?_) | ((with_reducible refine AW.draws mixed_ok ?_); refine RG.runG ty_ok 0 400 rfl ?_)))
        refine RG.opS rfl (op_index rfl (tab_ok ty_ok rfl) rfl (tab_ok ty_ok rfl) rfl rfl hidx rfl) rfl ?_
        refine RG.runG ty_ok 0 400 rfl ?_; (repeat (first | with_reducible refine AW.seq ?_ | with_reducible refine AW.skip ?_ | with_reducible refine AW.block ?_ | ((with_reducible refine RG.id ?_); refine RG.nil ⟨?_, ?_⟩; · kernel_rfl) | ((with_reducible refine RG.id ?_); refine RG.nil ?_) | ((with_reducible refine AW.text ?_); refine RG.runG ty_ok 0 400 rfl ?_) | ((with_reducible refine AW.draws mixed_ok ?_); refine RG.runG ty_ok 0 400 rfl ?_)))
        refine RG.opS rfl (op_index rfl (tab_ok ty_ok rfl) rfl (tab_ok ty_ok rfl) rfl rfl (show (e.cfg.tables[k].map encRls)[j]? = some (encRls e.cfg.tables[k][j]) by simp [hj2]) rfl) rfl ?_
        refine RG.runO ty_ok 0 [(92, .b (big e.cfg.tables[k][j]))] 400 rfl ⟨congrArg AV.b (big_dec encRl _), trivial⟩ ?_
        skip; (repeat (first | with_reducible refine AW.seq ?_ | with_reducible refine AW.skip ?_ | with_reducible refine AW.block ?_ | ((with_reducible refine RG.id ?_); refine RG.nil ⟨?_, ?_⟩; · kernel_rfl) | ((with_reducible refine RG.id ?_); refine RG.nil ?_) | ((with_reducible refine AW.text ?_); refine RG.runG ty_ok 0 400 rfl ?_) | ((with_reducible refine AW.draws mixed_ok ?_); refine RG.runG ty_ok 0 400 rfl ?_)))
        exact ⟨j + 1, ⟨by omega, by omega⟩, ⟨Rn.ownIs rfl rfl rfl, .is (congrArg AV.b hn2.symm) rfl, Rn.is rfl rfl, .is (i64_next hj2 hm2) rfl, trivial⟩, .same rfl rfl rfl, trivial⟩
      · skip; (repeat (first | with_reducible refine AW.seq ?_ | with_reducible refine AW.skip ?_ | with_reducible refine AW.block ?_ | ((with_reducible refine RG.id ?_); refine RG.nil ⟨?_, ?_⟩; · kernel_rfl) | ((with_reducible refine RG.id ?_); refine RG.nil ?_) | ((with_reducible refine AW.text ?_); refine RG.runG ty_ok 0 400 rfl ?_) | ((with_reducible refine AW.draws mixed_ok ?_); refine RG.runG ty_ok 0 400 rfl ?_)))
        exact ⟨j + 1, ⟨by omega, by omega⟩, ⟨Rn.ownIs rfl rfl rfl, .is (congrArg AV.b hn2.symm) rfl, Rn.is rfl rfl, .is (i64_next hj2 hm2) rfl, trivial⟩, .same rfl rfl rfl, trivial⟩
    have hj2 : ¬ j < e.cfg.tables[k].length := by simpa using hj2
    obtain rfl : j = e.cfg.tables[k].length := by omega
    skip; (repeat (first | with_reducible refine AW.seq ?_ | with_reducible refine AW.skip ?_ | with_reducible refine AW.block ?_ | ((with_reducible refine RG.id ?_); refine RG.nil ⟨?_, ?_⟩; · kernel_rfl) | ((with_reducible refine RG.id ?_); refine RG.nil ?_) | ((with_reducible refine AW.text ?_); refine RG.runG ty_ok 0 400 rfl ?_) | ((with_reducible refine AW.draws mixed_ok ?_); refine RG.runG ty_ok 0 400 rfl ?_)))
    refine AW.exit ?_
    refine Eq.mpr (if_pos rfl) ?_
    skip; (repeat (first | with_reducible refine AW.seq ?_ | with_reducible refine AW.skip ?_ | with_reducible refine AW.block ?_ | ((with_reducible refine RG.id ?_); refine RG.nil ⟨?_, ?_⟩; · kernel_rfl) | ((with_reducible refine RG.id ?_); refine RG.nil ?_) | ((with_reducible refine AW.text ?_); refine RG.runG ty_ok 0 400 rfl ?_) | ((with_reducible refine AW.draws mixed_ok ?_); refine RG.runG ty_ok 0 400 rfl ?_)))
    exact ⟨k + 1, ⟨by omega, by omega⟩, ⟨Rn.ownIs rfl rfl rfl, .is (congrArg AV.b hn.symm) rfl, .is (i64_next h hmx) rfl, trivial⟩, .same rfl rfl rfl, trivial⟩
  have h : ¬ k < e.cfg.tables.length := by simpa using h
  obtain rfl : k = e.cfg.tables.length := by omega
  skip; (repeat (first | with_reducible refine AW.seq ?_ | with_reducible refine AW.skip ?_ | with_reducible refine AW.block ?_ | ((with_reducible refine RG.id ?_); refine RG.nil ⟨?_, ?_⟩; · kernel_rfl) | ((with_reducible refine RG.id ?_); refine RG.nil ?_) | ((with_reducible refine AW.text ?_); refine RG.runG ty_ok 0 400 rfl ?_) | ((with_reducible refine AW.draws mixed_ok ?_); refine RG.runG ty_ok 0 400 rfl ?_)))
  refine AW.exit ?_
  refine Eq.mpr (if_pos rfl) ?_
  skip; (repeat (first | with_reducible refine AW.seq ?_ | with_reducible refine AW.skip ?_ | with_reducible refine AW.block ?_ | ((with_reducible refine RG.id ?_); refine RG.nil ⟨?_, ?_⟩; · kernel_rfl) | ((with_reducible refine RG.id ?_); refine RG.nil ?_) | ((with_reducible refine AW.text ?_); refine RG.runG ty_ok 0 400 rfl ?_) | ((with_reducible refine AW.draws mixed_ok ?_); refine RG.runG ty_ok 0 400 rfl ?_)))
  refine AW.ret (retQ1 rfl rfl rfl ?_)
  exact congrArg AV.b (lg2_fit e.cfg)
end Go.Proofs.Ytpaldbejnbcokaa.Sm
end
section
namespace Go.Proofs.Ytpaldbejnbcokaa.Sm
open Go.RowKit
set_option linter.unusedVariables false
set_option maxRecDepth 100000
set_option maxHeartbeats 2000000
theorem okEn_of {e : En} (h : e.cfg.fit = true) : okEn e := by
  refine ⟨h, ?_⟩
  have := words_le h
  rw [sealW, List.length_append, putF_len, enc8_len]
  simp only [En.words, List.length_cons]
  omega
def e1 : En := ⟨2, 0, 4, zeroC⟩
def e2 : En := ⟨1, 0, 0, zeroC⟩
theorem i64of_4 : i64of 4 = 4 := i64of_small (n := 4) (by omega)
theorem enC_e1 : enC e1 = [.i .i64 2, .i .i64 0, .i .i64 4, .sl [], .i .i64 0, .sl [], .sl [], .sl []] := by
  simp [enC, cfgC, e1, zeroC, line_i, i64of_4]
theorem enC_e2 : enC e2 = [.i .i64 1, .i .i64 0, .i .i64 0, .sl [], .i .i64 0, .sl [], .sl [], .sl []] := by
  simp [enC, cfgC, e2, zeroC, line_i]
theorem zero_fit : zeroC.fit = true := rfl
theorem rec_zero (a b c : UInt64) : (recE ⟨a, b, c, zeroC⟩).length = 76 := by
  rw [recE_len, sealW, List.length_append, putF_len, enc8_len]
  rfl
def b0 : Bk := ⟨[], 0, -1, false⟩
def b1 : Bk := b0.added (recE e1)
def b2 : Bk := { b1 with fuse := 20 }
def b3 : Bk := b2.cut (recE e2)
def b4 : Bk := b3.crash 9
def b5 : Bk := b4.read [e1]
theorem b1_all : b1.all = recE e1 := List.nil_append _
theorem b1_len : b1.all.length = 76 := by rw [b1_all]; exact rec_zero ..
theorem b1_sure : b1.sure = 76 := by
  show [].length + (recE e1).length = 76
  rw [show (recE e1).length = 76 from rec_zero ..]
  rfl
theorem b3_all : b3.all = b1.all ++ (recE e2).take 20 := rfl
theorem b3_len : b3.all.length = 96 := by
  rw [b3_all, List.length_append, b1_len, List.length_take, show (recE e2).length = 76 from rec_zero ..]
  rfl
theorem b3_keeps : b3.keeps 9 = 85 := by
  rw [Bk.keeps, b3_len, show b3.sure = 76 from b1_sure]
  decide
theorem b4_all : b4.all = [e1].flatMap recE ++ (recE e2).take 9 := by
  show b3.all.take (b3.keeps 9) = _
  rw [b3_keeps, b3_all, List.take_append, b1_len, List.take_take, List.take_of_length_le (by rw [b1_len]; omega), b1_all]
  simp
theorem b4_len : b4.all.length = 85 := by
  rw [b4_all, List.length_append, List.length_take]
  simp [e1, e2, rec_zero]
theorem part_of {e : En} (h : okEn e) {k : Nat} (hk : k < (recE e).length) : Part ((recE e).take k) := by
  by_cases h4 : k < 4
  · refine .inl ?_
    rw [List.length_take]
    omega
  · obtain ⟨j, rfl⟩ : ∃ j, k = j + 4 := ⟨k - 4, by omega⟩
    refine .inr ⟨(sealW e.words).length, _, _, _, _, (sealW e.words).take j, rfl, rfl, h.2, ?_⟩
    rw [recE_len] at hk
    rw [List.length_take]
    omega
theorem d_awake22 : PDoes Try.prog 26 [] (.b true) := by
  have hE1 := enC_e1
  have hE2 := enC_e2
  have h1 := fun q => m_Add_ok b0 e1 rfl zero_fit (okEn_of zero_fit).2 (by decide) (by decide) (.inl (by decide)) q
  have h2 := fun q => m_Add_cut b2 e2 rfl zero_fit (okEn_of zero_fit).2 (by show b1.all.length ≤ _; rw [b1_len]; decide) (by decide) (by rw [show (recE e2).length = 76 from rec_zero ..]; decide) q
  have h3 := fun q => m_Crash b3 9 (by rw [b3_len, show b3.sure = 76 from b1_sure]; decide) (by rw [b3_len]; decide) q
  have h4 := fun q => m_Entries b4 rfl [e1] ((recE e2).take 9) (part_of (okEn_of zero_fit) (by rw [show (recE e2).length = 76 from rec_zero ..]; decide)) (fun e he => by
    obtain rfl := List.mem_singleton.1 he
    exact okEn_of zero_fit) b4_all (by rw [b4_len]; decide) q
  rw [hE1] at h1
  rw [hE2] at h2
  rw [show [e1].map enC = [[.i .i64 2, .i .i64 0, .i .i64 4, .sl [], .i .i64 0, .sl [], .sl [], .sl []]] by rw [List.map_cons, hE1]; rfl] at h4
  refine PDoes.of_bodyN Try.func26 rfl (by kernel_rfl) rfl rfl ?_
  skip; (repeat (first | with_reducible refine AW.seq ?_ | with_reducible refine AW.skip ?_ | with_reducible refine AW.block ?_ | ((with_reducible refine RG.id ?_); refine RG.nil ⟨?_, ?_⟩; · kernel_rfl) | ((with_reducible refine RG.id ?_); refine RG.nil ?_) | ((with_reducible refine AW.text ?_); refine RG.runG ty_ok 0 400 rfl ?_) | ((with_reducible refine AW.draws mixed_ok ?_); refine RG.runG ty_ok 0 400 rfl ?_)))
  refine RG.ownN [] [(2, 100), (1, 101)] (fun q => m_New q) rfl rfl rfl rfl rfl rfl rfl rfl rfl rfl ?_
  refine RG.runG ty_ok 0 400 rfl ?_; (repeat (first | with_reducible refine AW.seq ?_ | with_reducible refine AW.skip ?_ | with_reducible refine AW.block ?_ | ((with_reducible refine RG.id ?_); refine RG.nil ⟨?_, ?_⟩; · kernel_rfl) | ((with_reducible refine RG.id ?_); refine RG.nil ?_) | ((with_reducible refine AW.text ?_); refine RG.runG ty_ok 0 400 rfl ?_) | ((with_reducible refine AW.draws mixed_ok ?_); refine RG.runG ty_ok 0 400 rfl ?_)))
  refine RG.ownN [(100, 0), (101, 1)] [(0, 100), (1, 101)] h1 rfl rfl rfl rfl rfl rfl rfl rfl rfl rfl ?_
  refine RG.runG ty_ok 0 400 rfl ?_; (repeat (first | with_reducible refine AW.seq ?_ | with_reducible refine AW.skip ?_ | with_reducible refine AW.block ?_ | ((with_reducible refine RG.id ?_); refine RG.nil ⟨?_, ?_⟩; · kernel_rfl) | ((with_reducible refine RG.id ?_); refine RG.nil ?_) | ((with_reducible refine AW.text ?_); refine RG.runG ty_ok 0 400 rfl ?_) | ((with_reducible refine AW.draws mixed_ok ?_); refine RG.runG ty_ok 0 400 rfl ?_))); refine AW.condF rfl ?_; skip; (repeat (first | with_reducible refine AW.seq ?_ | with_reducible refine AW.skip ?_ | with_reducible refine AW.block ?_ | ((with_reducible refine RG.id ?_); refine RG.nil ⟨?_, ?_⟩; · kernel_rfl) | ((with_reducible refine RG.id ?_); refine RG.nil ?_) | ((with_reducible refine AW.text ?_); refine RG.runG ty_ok 0 400 rfl ?_) | ((with_reducible refine AW.draws mixed_ok ?_); refine RG.runG ty_ok 0 400 rfl ?_)))
  refine RG.ownN [(100, 0), (101, 1)] [(0, 100), (1, 101)] (fun q => m_Fuse b1 20 q) rfl rfl rfl rfl rfl rfl rfl rfl rfl rfl ?_
  refine RG.runG ty_ok 0 400 rfl ?_; (repeat (first | with_reducible refine AW.seq ?_ | with_reducible refine AW.skip ?_ | with_reducible refine AW.block ?_ | ((with_reducible refine RG.id ?_); refine RG.nil ⟨?_, ?_⟩; · kernel_rfl) | ((with_reducible refine RG.id ?_); refine RG.nil ?_) | ((with_reducible refine AW.text ?_); refine RG.runG ty_ok 0 400 rfl ?_) | ((with_reducible refine AW.draws mixed_ok ?_); refine RG.runG ty_ok 0 400 rfl ?_)))
  refine RG.ownN [(100, 0), (101, 1)] [(0, 100), (1, 101)] h2 rfl rfl rfl rfl rfl rfl rfl rfl rfl rfl ?_
  refine RG.runG ty_ok 0 400 rfl ?_; (repeat (first | with_reducible refine AW.seq ?_ | with_reducible refine AW.skip ?_ | with_reducible refine AW.block ?_ | ((with_reducible refine RG.id ?_); refine RG.nil ⟨?_, ?_⟩; · kernel_rfl) | ((with_reducible refine RG.id ?_); refine RG.nil ?_) | ((with_reducible refine AW.text ?_); refine RG.runG ty_ok 0 400 rfl ?_) | ((with_reducible refine AW.draws mixed_ok ?_); refine RG.runG ty_ok 0 400 rfl ?_)))
  refine RG.ownN [(100, 0), (101, 1)] [(0, 100), (1, 101)] h3 rfl rfl rfl rfl rfl rfl rfl rfl rfl rfl ?_
  refine RG.runG ty_ok 0 400 rfl ?_; (repeat (first | with_reducible refine AW.seq ?_ | with_reducible refine AW.skip ?_ | with_reducible refine AW.block ?_ | ((with_reducible refine RG.id ?_); refine RG.nil ⟨?_, ?_⟩; · kernel_rfl) | ((with_reducible refine RG.id ?_); refine RG.nil ?_) | ((with_reducible refine AW.text ?_); refine RG.runG ty_ok 0 400 rfl ?_) | ((with_reducible refine AW.draws mixed_ok ?_); refine RG.runG ty_ok 0 400 rfl ?_)))
  refine RG.ownN [(100, 0), (101, 1)] [(0, 100), (1, 101)] (fun q => m_Size b4 q) rfl rfl rfl rfl rfl rfl rfl rfl rfl rfl ?_
  refine RG.runG ty_ok 0 400 rfl ?_; (repeat (first | with_reducible refine AW.seq ?_ | with_reducible refine AW.skip ?_ | with_reducible refine AW.block ?_ | ((with_reducible refine RG.id ?_); refine RG.nil ⟨?_, ?_⟩; · kernel_rfl) | ((with_reducible refine RG.id ?_); refine RG.nil ?_) | ((with_reducible refine AW.text ?_); refine RG.runG ty_ok 0 400 rfl ?_) | ((with_reducible refine AW.draws mixed_ok ?_); refine RG.runG ty_ok 0 400 rfl ?_)))
  refine RG.ownN [(100, 0), (101, 1)] [(0, 100), (1, 101)] h4 rfl rfl rfl rfl rfl rfl rfl rfl rfl rfl ?_
  refine RG.runG ty_ok 0 400 rfl ?_; (repeat (first | with_reducible refine AW.seq ?_ | with_reducible refine AW.skip ?_ | with_reducible refine AW.block ?_ | ((with_reducible refine RG.id ?_); refine RG.nil ⟨?_, ?_⟩; · kernel_rfl) | ((with_reducible refine RG.id ?_); refine RG.nil ?_) | ((with_reducible refine AW.text ?_); refine RG.runG ty_ok 0 400 rfl ?_) | ((with_reducible refine AW.draws mixed_ok ?_); refine RG.runG ty_ok 0 400 rfl ?_)))
  refine RG.opS rfl (op_index rfl (tab_ok ty_ok rfl) rfl (tab_ok ty_ok rfl) rfl rfl rfl rfl) rfl ?_
  refine RG.runG ty_ok 0 400 rfl ?_; (repeat (first | with_reducible refine AW.seq ?_ | with_reducible refine AW.skip ?_ | with_reducible refine AW.block ?_ | ((with_reducible refine RG.id ?_); refine RG.nil ⟨?_, ?_⟩; · kernel_rfl) | ((with_reducible refine RG.id ?_); refine RG.nil ?_) | ((with_reducible refine AW.text ?_); refine RG.runG ty_ok 0 400 rfl ?_) | ((with_reducible refine AW.draws mixed_ok ?_); refine RG.runG ty_ok 0 400 rfl ?_)))
  refine RG.ownN [(100, 0), (101, 1)] [(0, 100), (1, 101)] (fun q => m_Size b5 q) rfl rfl rfl rfl rfl rfl rfl rfl rfl rfl ?_
  refine RG.runO ty_ok 0 [(51, .b true)] 400 rfl ⟨congrArg AV.b (decide_eq_true ?_), trivial⟩ ?_
  · rw [byteEls_len, byteEls_len, b4_len, show b5.all.length = 76 from (by show ([e1].flatMap recE).length = 76; simp [e1, rec_zero])]
    decide
  refine RG.runG ty_ok 0 400 rfl ?_; (repeat (first | with_reducible refine AW.seq ?_ | with_reducible refine AW.skip ?_ | with_reducible refine AW.block ?_ | ((with_reducible refine RG.id ?_); refine RG.nil ⟨?_, ?_⟩; · kernel_rfl) | ((with_reducible refine RG.id ?_); refine RG.nil ?_) | ((with_reducible refine AW.text ?_); refine RG.runG ty_ok 0 400 rfl ?_) | ((with_reducible refine AW.draws mixed_ok ?_); refine RG.runG ty_ok 0 400 rfl ?_)))
  refine AW.ret (retQB rfl rfl ?_)
  rfl
theorem n_live : PDoes Try.prog 53 [.raw (.pointer none)] (.i .i64 1) := by
  refine PDoes.of_bodyN Try.func53 rfl (by kernel_rfl) rfl rfl ?_
  skip; (repeat (first | with_reducible refine AW.seq ?_ | with_reducible refine AW.skip ?_ | with_reducible refine AW.block ?_ | ((with_reducible refine RG.id ?_); refine RG.nil ⟨?_, ?_⟩; · kernel_rfl) | ((with_reducible refine RG.id ?_); refine RG.nil ?_) | ((with_reducible refine AW.text ?_); refine RG.runG ty_ok 0 400 rfl ?_) | ((with_reducible refine AW.draws mixed_ok ?_); refine RG.runG ty_ok 0 400 rfl ?_))); refine AW.condT rfl ?_; skip; (repeat (first | with_reducible refine AW.seq ?_ | with_reducible refine AW.skip ?_ | with_reducible refine AW.block ?_ | ((with_reducible refine RG.id ?_); refine RG.nil ⟨?_, ?_⟩; · kernel_rfl) | ((with_reducible refine RG.id ?_); refine RG.nil ?_) | ((with_reducible refine AW.text ?_); refine RG.runG ty_ok 0 400 rfl ?_) | ((with_reducible refine AW.draws mixed_ok ?_); refine RG.runG ty_ok 0 400 rfl ?_))); refine AW.ret (retQ1 rfl rfl rfl ?_)
  rfl
theorem n_Fuse (n : Int) : PDoes Try.prog 29 [.raw (.pointer none), .i .i64 n] (.tup []) := by
  refine PDoes.of_bodyN Try.func29 rfl (by kernel_rfl) rfl rfl ?_
  skip; (repeat (first | with_reducible refine AW.seq ?_ | with_reducible refine AW.skip ?_ | with_reducible refine AW.block ?_ | ((with_reducible refine RG.id ?_); refine RG.nil ⟨?_, ?_⟩; · kernel_rfl) | ((with_reducible refine RG.id ?_); refine RG.nil ?_) | ((with_reducible refine AW.text ?_); refine RG.runG ty_ok 0 400 rfl ?_) | ((with_reducible refine AW.draws mixed_ok ?_); refine RG.runG ty_ok 0 400 rfl ?_))); refine AW.condF rfl ?_; skip; (repeat (first | with_reducible refine AW.seq ?_ | with_reducible refine AW.skip ?_ | with_reducible refine AW.block ?_ | ((with_reducible refine RG.id ?_); refine RG.nil ⟨?_, ?_⟩; · kernel_rfl) | ((with_reducible refine RG.id ?_); refine RG.nil ?_) | ((with_reducible refine AW.text ?_); refine RG.runG ty_ok 0 400 rfl ?_) | ((with_reducible refine AW.draws mixed_ok ?_); refine RG.runG ty_ok 0 400 rfl ?_)))
  exact retQ0 rfl (.inl rfl)
theorem n_Crash (n : Int) : PDoes Try.prog 30 [.raw (.pointer none), .i .i64 n] (.tup []) := by
  refine PDoes.of_bodyN Try.func30 rfl (by kernel_rfl) rfl rfl ?_
  skip; (repeat (first | with_reducible refine AW.seq ?_ | with_reducible refine AW.skip ?_ | with_reducible refine AW.block ?_ | ((with_reducible refine RG.id ?_); refine RG.nil ⟨?_, ?_⟩; · kernel_rfl) | ((with_reducible refine RG.id ?_); refine RG.nil ?_) | ((with_reducible refine AW.text ?_); refine RG.runG ty_ok 0 400 rfl ?_) | ((with_reducible refine AW.draws mixed_ok ?_); refine RG.runG ty_ok 0 400 rfl ?_))); refine AW.condT rfl ?_; skip; (repeat (first | with_reducible refine AW.seq ?_ | with_reducible refine AW.skip ?_ | with_reducible refine AW.block ?_ | ((with_reducible refine RG.id ?_); refine RG.nil ⟨?_, ?_⟩; · kernel_rfl) | ((with_reducible refine RG.id ?_); refine RG.nil ?_) | ((with_reducible refine AW.text ?_); refine RG.runG ty_ok 0 400 rfl ?_) | ((with_reducible refine AW.draws mixed_ok ?_); refine RG.runG ty_ok 0 400 rfl ?_)))
  exact AW.ret (retQ0 rfl (.inr rfl))
theorem n_Size : PDoes Try.prog 34 [.raw (.pointer none)] (.i .i64 0) := by
  refine PDoes.of_bodyN Try.func34 rfl (by kernel_rfl) rfl rfl ?_
  skip; (repeat (first | with_reducible refine AW.seq ?_ | with_reducible refine AW.skip ?_ | with_reducible refine AW.block ?_ | ((with_reducible refine RG.id ?_); refine RG.nil ⟨?_, ?_⟩; · kernel_rfl) | ((with_reducible refine RG.id ?_); refine RG.nil ?_) | ((with_reducible refine AW.text ?_); refine RG.runG ty_ok 0 400 rfl ?_) | ((with_reducible refine AW.draws mixed_ok ?_); refine RG.runG ty_ok 0 400 rfl ?_))); refine AW.condT rfl ?_; skip; (repeat (first | with_reducible refine AW.seq ?_ | with_reducible refine AW.skip ?_ | with_reducible refine AW.block ?_ | ((with_reducible refine RG.id ?_); refine RG.nil ⟨?_, ?_⟩; · kernel_rfl) | ((with_reducible refine RG.id ?_); refine RG.nil ?_) | ((with_reducible refine AW.text ?_); refine RG.runG ty_ok 0 400 rfl ?_) | ((with_reducible refine AW.draws mixed_ok ?_); refine RG.runG ty_ok 0 400 rfl ?_))); refine AW.ret (retQ1 rfl rfl rfl ?_)
  rfl
theorem n_Entries : PDoes Try.prog 31 [.raw (.pointer none)] (.tup [.sl [], .i .i64 1]) := by
  refine PDoes.of_bodyN Try.func31 rfl (by kernel_rfl) rfl rfl ?_
  skip; (repeat (first | with_reducible refine AW.seq ?_ | with_reducible refine AW.skip ?_ | with_reducible refine AW.block ?_ | ((with_reducible refine RG.id ?_); refine RG.nil ⟨?_, ?_⟩; · kernel_rfl) | ((with_reducible refine RG.id ?_); refine RG.nil ?_) | ((with_reducible refine AW.text ?_); refine RG.runG ty_ok 0 400 rfl ?_) | ((with_reducible refine AW.draws mixed_ok ?_); refine RG.runG ty_ok 0 400 rfl ?_)))
  refine RG.callS rfl rfl rfl rfl rfl n_live rfl rfl ?_
  refine RG.runG ty_ok 0 400 rfl ?_; (repeat (first | with_reducible refine AW.seq ?_ | with_reducible refine AW.skip ?_ | with_reducible refine AW.block ?_ | ((with_reducible refine RG.id ?_); refine RG.nil ⟨?_, ?_⟩; · kernel_rfl) | ((with_reducible refine RG.id ?_); refine RG.nil ?_) | ((with_reducible refine AW.text ?_); refine RG.runG ty_ok 0 400 rfl ?_) | ((with_reducible refine AW.draws mixed_ok ?_); refine RG.runG ty_ok 0 400 rfl ?_))); refine AW.condT rfl ?_; skip; (repeat (first | with_reducible refine AW.seq ?_ | with_reducible refine AW.skip ?_ | with_reducible refine AW.block ?_ | ((with_reducible refine RG.id ?_); refine RG.nil ⟨?_, ?_⟩; · kernel_rfl) | ((with_reducible refine RG.id ?_); refine RG.nil ?_) | ((with_reducible refine AW.text ?_); refine RG.runG ty_ok 0 400 rfl ?_) | ((with_reducible refine AW.draws mixed_ok ?_); refine RG.runG ty_ok 0 400 rfl ?_))); refine AW.ret (retQ2 rfl rfl rfl rfl ?_)
  rfl
theorem n_Add (e : En) : PDoes Try.prog 27 [.raw (.pointer none), .agg (enC e)] (.i .i64 1) := by
  refine PDoes.of_bodyN Try.func27 rfl (by kernel_rfl) rfl rfl ?_
  skip; (repeat (first | with_reducible refine AW.seq ?_ | with_reducible refine AW.skip ?_ | with_reducible refine AW.block ?_ | ((with_reducible refine RG.id ?_); refine RG.nil ⟨?_, ?_⟩; · kernel_rfl) | ((with_reducible refine RG.id ?_); refine RG.nil ?_) | ((with_reducible refine AW.text ?_); refine RG.runG ty_ok 0 400 rfl ?_) | ((with_reducible refine AW.draws mixed_ok ?_); refine RG.runG ty_ok 0 400 rfl ?_)))
  refine RG.callS rfl rfl rfl rfl rfl n_live rfl rfl ?_
  refine RG.runG ty_ok 0 400 rfl ?_; (repeat (first | with_reducible refine AW.seq ?_ | with_reducible refine AW.skip ?_ | with_reducible refine AW.block ?_ | ((with_reducible refine RG.id ?_); refine RG.nil ⟨?_, ?_⟩; · kernel_rfl) | ((with_reducible refine RG.id ?_); refine RG.nil ?_) | ((with_reducible refine AW.text ?_); refine RG.runG ty_ok 0 400 rfl ?_) | ((with_reducible refine AW.draws mixed_ok ?_); refine RG.runG ty_ok 0 400 rfl ?_))); refine AW.condT rfl ?_; skip; (repeat (first | with_reducible refine AW.seq ?_ | with_reducible refine AW.skip ?_ | with_reducible refine AW.block ?_ | ((with_reducible refine RG.id ?_); refine RG.nil ⟨?_, ?_⟩; · kernel_rfl) | ((with_reducible refine RG.id ?_); refine RG.nil ?_) | ((with_reducible refine AW.text ?_); refine RG.runG ty_ok 0 400 rfl ?_) | ((with_reducible refine AW.draws mixed_ok ?_); refine RG.runG ty_ok 0 400 rfl ?_))); refine AW.ret (retQ1 rfl rfl rfl ?_)
  rfl
theorem BookNone_d (e : En) (n : Int) : PDoes Try.prog 10 [.agg (enC e), .i .i64 n] (.b true) := by
  refine PDoes.of_bodyN Try.func10 rfl (by kernel_rfl) rfl rfl ?_
  skip; (repeat (first | with_reducible refine AW.seq ?_ | with_reducible refine AW.skip ?_ | with_reducible refine AW.block ?_ | ((with_reducible refine RG.id ?_); refine RG.nil ⟨?_, ?_⟩; · kernel_rfl) | ((with_reducible refine RG.id ?_); refine RG.nil ?_) | ((with_reducible refine AW.text ?_); refine RG.runG ty_ok 0 400 rfl ?_) | ((with_reducible refine AW.draws mixed_ok ?_); refine RG.runG ty_ok 0 400 rfl ?_)))
  refine RG.callS rfl rfl rfl rfl rfl (n_Fuse n) rfl rfl ?_
  refine RG.runG ty_ok 0 400 rfl ?_; (repeat (first | with_reducible refine AW.seq ?_ | with_reducible refine AW.skip ?_ | with_reducible refine AW.block ?_ | ((with_reducible refine RG.id ?_); refine RG.nil ⟨?_, ?_⟩; · kernel_rfl) | ((with_reducible refine RG.id ?_); refine RG.nil ?_) | ((with_reducible refine AW.text ?_); refine RG.runG ty_ok 0 400 rfl ?_) | ((with_reducible refine AW.draws mixed_ok ?_); refine RG.runG ty_ok 0 400 rfl ?_)))
  refine RG.callS rfl rfl rfl rfl rfl (n_Crash n) rfl rfl ?_
  refine RG.runG ty_ok 0 400 rfl ?_; (repeat (first | with_reducible refine AW.seq ?_ | with_reducible refine AW.skip ?_ | with_reducible refine AW.block ?_ | ((with_reducible refine RG.id ?_); refine RG.nil ⟨?_, ?_⟩; · kernel_rfl) | ((with_reducible refine RG.id ?_); refine RG.nil ?_) | ((with_reducible refine AW.text ?_); refine RG.runG ty_ok 0 400 rfl ?_) | ((with_reducible refine AW.draws mixed_ok ?_); refine RG.runG ty_ok 0 400 rfl ?_)))
  refine RG.callMS rfl rfl rfl rfl rfl rfl n_Entries rfl ?_
  refine RG.runG ty_ok 0 400 rfl ?_; (repeat (first | with_reducible refine AW.seq ?_ | with_reducible refine AW.skip ?_ | with_reducible refine AW.block ?_ | ((with_reducible refine RG.id ?_); refine RG.nil ⟨?_, ?_⟩; · kernel_rfl) | ((with_reducible refine RG.id ?_); refine RG.nil ?_) | ((with_reducible refine AW.text ?_); refine RG.runG ty_ok 0 400 rfl ?_) | ((with_reducible refine AW.draws mixed_ok ?_); refine RG.runG ty_ok 0 400 rfl ?_)))
  refine RG.callS rfl rfl rfl rfl rfl d_awake22 rfl rfl ?_
  refine RG.runG ty_ok 0 400 rfl ?_; (repeat (first | with_reducible refine AW.seq ?_ | with_reducible refine AW.skip ?_ | with_reducible refine AW.block ?_ | ((with_reducible refine RG.id ?_); refine RG.nil ⟨?_, ?_⟩; · kernel_rfl) | ((with_reducible refine RG.id ?_); refine RG.nil ?_) | ((with_reducible refine AW.text ?_); refine RG.runG ty_ok 0 400 rfl ?_) | ((with_reducible refine AW.draws mixed_ok ?_); refine RG.runG ty_ok 0 400 rfl ?_)))
  refine RG.callS rfl rfl rfl rfl rfl (n_Add e) rfl rfl ?_
  refine RG.runG ty_ok 0 400 rfl ?_; (repeat (first | with_reducible refine AW.seq ?_ | with_reducible refine AW.skip ?_ | with_reducible refine AW.block ?_ | ((with_reducible refine RG.id ?_); refine RG.nil ⟨?_, ?_⟩; · kernel_rfl) | ((with_reducible refine RG.id ?_); refine RG.nil ?_) | ((with_reducible refine AW.text ?_); refine RG.runG ty_ok 0 400 rfl ?_) | ((with_reducible refine AW.draws mixed_ok ?_); refine RG.runG ty_ok 0 400 rfl ?_)))
  refine RG.callS rfl rfl rfl rfl rfl n_Size rfl rfl ?_
  refine RG.runG ty_ok 0 400 rfl ?_; (repeat (first | with_reducible refine AW.seq ?_ | with_reducible refine AW.skip ?_ | with_reducible refine AW.block ?_ | ((with_reducible refine RG.id ?_); refine RG.nil ⟨?_, ?_⟩; · kernel_rfl) | ((with_reducible refine RG.id ?_); refine RG.nil ?_) | ((with_reducible refine AW.text ?_); refine RG.runG ty_ok 0 400 rfl ?_) | ((with_reducible refine AW.draws mixed_ok ?_); refine RG.runG ty_ok 0 400 rfl ?_)))
  refine AW.ret (retQB rfl rfl ?_)
  rfl
end Go.Proofs.Ytpaldbejnbcokaa.Sm
end
