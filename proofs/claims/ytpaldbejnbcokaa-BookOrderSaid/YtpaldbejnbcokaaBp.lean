/- The law BookSizes, walked over abstract values. No condition. The law BookOrder, walked over abstract values. No condition. The law BookPlays, walked over abstract values. No condition. How the arguments of law22 read as abstract values. -/
import Derived.Test.YtpaldbejnbcokaaBk
import Derived.Test.YtpaldbejnbcokaaRdw
section
namespace Go.Proofs.Ytpaldbejnbcokaa.Sm
open Go.RowKit
set_option linter.unusedVariables false
set_option maxRecDepth 100000
set_option maxHeartbeats 4000000
/-- A Book's blocks, where they have other numbers. -/
def bkAt (i j : Nat) (b : Bk) : List (Nat × SB) := [(i, ⟨0, some (.box 124 [.row j 0 0 (byteEls b.all).length, .i .i64 b.sure, .i .i64 b.fuse, .b b.dead])⟩), (j, ⟨0, some (.row 5 1 (byteEls b.all))⟩)]
theorem recE_bound {e : En} (h : e.cfg.fit = true) : 4 ≤ (recE e).length ∧ (recE e).length < 4294967300 := by
  have := (okEn_of h).2
  rw [recE_len]
  omega
theorem BookSizes_d (e : En) (fuse : Nat) (keep : Int) (hfu : fuse < 65536) : PDoes Try.prog 9 [.agg (enC e), .i .u16 fuse, .i .i64 keep] (.b true) := by
  refine PDoes.of_bodyN Try.func9 rfl (by kernel_rfl) rfl rfl ?_
  skip; (repeat (first | with_reducible refine AW.seq ?_ | with_reducible refine AW.skip ?_ | with_reducible refine AW.block ?_ | ((with_reducible refine RG.id ?_); refine RG.nil ⟨?_, ?_⟩; · kernel_rfl) | ((with_reducible refine RG.id ?_); refine RG.nil ?_) | ((with_reducible refine AW.text ?_); refine RG.runG ty_ok 0 400 rfl ?_) | ((with_reducible refine AW.draws mixed_ok ?_); refine RG.runG ty_ok 0 400 rfl ?_)))
  refine RG.ownN [] [(2, 100), (1, 101)] (fun q => m_New q) rfl rfl rfl rfl rfl rfl rfl rfl rfl rfl ?_
  refine RG.runG ty_ok 0 400 rfl ?_; (repeat (first | with_reducible refine AW.seq ?_ | with_reducible refine AW.skip ?_ | with_reducible refine AW.block ?_ | ((with_reducible refine RG.id ?_); refine RG.nil ⟨?_, ?_⟩; · kernel_rfl) | ((with_reducible refine RG.id ?_); refine RG.nil ?_) | ((with_reducible refine AW.text ?_); refine RG.runG ty_ok 0 400 rfl ?_) | ((with_reducible refine AW.draws mixed_ok ?_); refine RG.runG ty_ok 0 400 rfl ?_)))
  refine RG.ownN [] [(2, 102), (1, 103)] (fun q => m_New q) rfl rfl rfl rfl rfl rfl rfl rfl rfl rfl ?_
  refine RG.runG ty_ok 0 400 rfl ?_; (repeat (first | with_reducible refine AW.seq ?_ | with_reducible refine AW.skip ?_ | with_reducible refine AW.block ?_ | ((with_reducible refine RG.id ?_); refine RG.nil ⟨?_, ?_⟩; · kernel_rfl) | ((with_reducible refine RG.id ?_); refine RG.nil ?_) | ((with_reducible refine AW.text ?_); refine RG.runG ty_ok 0 400 rfl ?_) | ((with_reducible refine AW.draws mixed_ok ?_); refine RG.runG ty_ok 0 400 rfl ?_)))
  refine RG.callS rfl rfl rfl rfl rfl d_awake22 rfl rfl ?_
  refine RG.runG ty_ok 0 400 rfl ?_; (repeat (first | with_reducible refine AW.seq ?_ | with_reducible refine AW.skip ?_ | with_reducible refine AW.block ?_ | ((with_reducible refine RG.id ?_); refine RG.nil ⟨?_, ?_⟩; · kernel_rfl) | ((with_reducible refine RG.id ?_); refine RG.nil ?_) | ((with_reducible refine AW.text ?_); refine RG.runG ty_ok 0 400 rfl ?_) | ((with_reducible refine AW.draws mixed_ok ?_); refine RG.runG ty_ok 0 400 rfl ?_)))
  cases hf : e.cfg.fit
  · refine RG.callS rfl rfl rfl rfl rfl (by have := d_long e; rw [hf] at this; exact this) rfl rfl ?_
    refine RG.runG ty_ok 0 400 rfl ?_; (repeat (first | with_reducible refine AW.seq ?_ | with_reducible refine AW.skip ?_ | with_reducible refine AW.block ?_ | ((with_reducible refine RG.id ?_); refine RG.nil ⟨?_, ?_⟩; · kernel_rfl) | ((with_reducible refine RG.id ?_); refine RG.nil ?_) | ((with_reducible refine AW.text ?_); refine RG.runG ty_ok 0 400 rfl ?_) | ((with_reducible refine AW.draws mixed_ok ?_); refine RG.runG ty_ok 0 400 rfl ?_))); refine AW.condT rfl ?_; skip; (repeat (first | with_reducible refine AW.seq ?_ | with_reducible refine AW.skip ?_ | with_reducible refine AW.block ?_ | ((with_reducible refine RG.id ?_); refine RG.nil ⟨?_, ?_⟩; · kernel_rfl) | ((with_reducible refine RG.id ?_); refine RG.nil ?_) | ((with_reducible refine AW.text ?_); refine RG.runG ty_ok 0 400 rfl ?_) | ((with_reducible refine AW.draws mixed_ok ?_); refine RG.runG ty_ok 0 400 rfl ?_)))
    refine RG.callS rfl rfl rfl rfl rfl d_awake22 rfl rfl ?_
    refine RG.runG ty_ok 0 400 rfl ?_; (repeat (first | with_reducible refine AW.seq ?_ | with_reducible refine AW.skip ?_ | with_reducible refine AW.block ?_ | ((with_reducible refine RG.id ?_); refine RG.nil ⟨?_, ?_⟩; · kernel_rfl) | ((with_reducible refine RG.id ?_); refine RG.nil ?_) | ((with_reducible refine AW.text ?_); refine RG.runG ty_ok 0 400 rfl ?_) | ((with_reducible refine AW.draws mixed_ok ?_); refine RG.runG ty_ok 0 400 rfl ?_))); refine AW.ret (retQB rfl rfl ?_)
    rfl
  have hL := recE_bound hf
  refine RG.callS rfl rfl rfl rfl rfl (by have := d_long e; rw [hf] at this; exact this) rfl rfl ?_
  refine RG.runG ty_ok 0 400 rfl ?_; (repeat (first | with_reducible refine AW.seq ?_ | with_reducible refine AW.skip ?_ | with_reducible refine AW.block ?_ | ((with_reducible refine RG.id ?_); refine RG.nil ⟨?_, ?_⟩; · kernel_rfl) | ((with_reducible refine RG.id ?_); refine RG.nil ?_) | ((with_reducible refine AW.text ?_); refine RG.runG ty_ok 0 400 rfl ?_) | ((with_reducible refine AW.draws mixed_ok ?_); refine RG.runG ty_ok 0 400 rfl ?_))); refine AW.condF rfl ?_; skip; (repeat (first | with_reducible refine AW.seq ?_ | with_reducible refine AW.skip ?_ | with_reducible refine AW.block ?_ | ((with_reducible refine RG.id ?_); refine RG.nil ⟨?_, ?_⟩; · kernel_rfl) | ((with_reducible refine RG.id ?_); refine RG.nil ?_) | ((with_reducible refine AW.text ?_); refine RG.runG ty_ok 0 400 rfl ?_) | ((with_reducible refine AW.draws mixed_ok ?_); refine RG.runG ty_ok 0 400 rfl ?_)))
  refine RG.ownN [(100, 0), (101, 1)] [(0, 100), (1, 101)] (fun q => m_Add_ok b0 e rfl hf (okEn_of hf).2 (by decide) (by decide) (.inl (by decide)) q) rfl rfl rfl rfl rfl rfl rfl rfl rfl rfl ?_
  refine RG.runG ty_ok 0 400 rfl ?_; (repeat (first | with_reducible refine AW.seq ?_ | with_reducible refine AW.skip ?_ | with_reducible refine AW.block ?_ | ((with_reducible refine RG.id ?_); refine RG.nil ⟨?_, ?_⟩; · kernel_rfl) | ((with_reducible refine RG.id ?_); refine RG.nil ?_) | ((with_reducible refine AW.text ?_); refine RG.runG ty_ok 0 400 rfl ?_) | ((with_reducible refine AW.draws mixed_ok ?_); refine RG.runG ty_ok 0 400 rfl ?_))); refine AW.condF rfl ?_; skip; (repeat (first | with_reducible refine AW.seq ?_ | with_reducible refine AW.skip ?_ | with_reducible refine AW.block ?_ | ((with_reducible refine RG.id ?_); refine RG.nil ⟨?_, ?_⟩; · kernel_rfl) | ((with_reducible refine RG.id ?_); refine RG.nil ?_) | ((with_reducible refine AW.text ?_); refine RG.runG ty_ok 0 400 rfl ?_) | ((with_reducible refine AW.draws mixed_ok ?_); refine RG.runG ty_ok 0 400 rfl ?_)))
  refine RG.ownN [(100, 0), (101, 1)] [(0, 100), (1, 101)] (fun q => m_Size (b0.added (recE e)) q) rfl rfl rfl rfl rfl rfl rfl rfl rfl rfl ?_
  generalize hR : recE e = R at hL
  have hA : ((byteEls (b0.added R).all).length : Int) = R.length := by
    rw [byteEls_len]
    rfl
  refine RG.runO ty_ok 0 [(9, .i .i64 R.length)] 400 rfl ⟨congrArg (AV.i .i64) hA, trivial⟩ ?_
  skip; (repeat (first | with_reducible refine AW.seq ?_ | with_reducible refine AW.skip ?_ | with_reducible refine AW.block ?_ | ((with_reducible refine RG.id ?_); refine RG.nil ⟨?_, ?_⟩; · kernel_rfl) | ((with_reducible refine RG.id ?_); refine RG.nil ?_) | with_reducible refine AW.text ?_ | with_reducible refine AW.draws mixed_ok ?_))
  refine RG.runO ty_ok 0 [(10, .i .i64 fuse)] 400 rfl ⟨congrArg (AV.i .i64) (by simp only [IntKind.wrap_i64]; omega), trivial⟩ ?_
  skip; (repeat (first | with_reducible refine AW.seq ?_ | with_reducible refine AW.skip ?_ | with_reducible refine AW.block ?_ | ((with_reducible refine RG.id ?_); refine RG.nil ⟨?_, ?_⟩; · kernel_rfl) | ((with_reducible refine RG.id ?_); refine RG.nil ?_) | ((with_reducible refine AW.text ?_); refine RG.runG ty_ok 0 400 rfl ?_) | ((with_reducible refine AW.draws mixed_ok ?_); refine RG.runG ty_ok 0 400 rfl ?_)))
  refine RG.ownN [(102, 0), (103, 1)] [(0, 102), (1, 103)] (fun q => m_Fuse b0 fuse q) rfl rfl rfl rfl rfl rfl rfl rfl rfl rfl ?_
  refine RG.runG ty_ok 0 400 rfl ?_; (repeat (first | with_reducible refine AW.seq ?_ | with_reducible refine AW.skip ?_ | with_reducible refine AW.block ?_ | ((with_reducible refine RG.id ?_); refine RG.nil ⟨?_, ?_⟩; · kernel_rfl) | ((with_reducible refine RG.id ?_); refine RG.nil ?_) | ((with_reducible refine AW.text ?_); refine RG.runG ty_ok 0 400 rfl ?_) | ((with_reducible refine AW.draws mixed_ok ?_); refine RG.runG ty_ok 0 400 rfl ?_)))
  have hmx : max (fuse : Int) (-1) = fuse := by omega
  by_cases hk : R.length < fuse
  · refine RG.ownN [(102, 0), (103, 1)] [(0, 102), (1, 103)] (fun q => m_Add_ok { b0 with fuse := max (fuse : Int) (-1) } e rfl hf (okEn_of hf).2 (Nat.zero_le _) (by rw [hmx]; constructor <;> simp only <;> omega) (.inr (by rw [hR]; simp only; omega)) q) rfl rfl rfl rfl rfl rfl rfl rfl rfl rfl ?_
    rw [hR]
    refine RG.runG ty_ok 0 400 rfl ?_; (repeat (first | with_reducible refine AW.seq ?_ | with_reducible refine AW.skip ?_ | with_reducible refine AW.block ?_ | ((with_reducible refine RG.id ?_); refine RG.nil ⟨?_, ?_⟩; · kernel_rfl) | ((with_reducible refine RG.id ?_); refine RG.nil ?_) | with_reducible refine AW.text ?_ | with_reducible refine AW.draws mixed_ok ?_))
    refine RG.runO ty_ok 0 [(48, .b true)] 400 rfl ⟨congrArg AV.b (decide_eq_true (by omega)), trivial⟩ ?_
    skip; (repeat (first | with_reducible refine AW.seq ?_ | with_reducible refine AW.skip ?_ | with_reducible refine AW.block ?_ | ((with_reducible refine RG.id ?_); refine RG.nil ⟨?_, ?_⟩; · kernel_rfl) | ((with_reducible refine RG.id ?_); refine RG.nil ?_) | ((with_reducible refine AW.text ?_); refine RG.runG ty_ok 0 400 rfl ?_) | ((with_reducible refine AW.draws mixed_ok ?_); refine RG.runG ty_ok 0 400 rfl ?_))); refine AW.condT rfl ?_; skip; (repeat (first | with_reducible refine AW.seq ?_ | with_reducible refine AW.skip ?_ | with_reducible refine AW.block ?_ | ((with_reducible refine RG.id ?_); refine RG.nil ⟨?_, ?_⟩; · kernel_rfl) | ((with_reducible refine RG.id ?_); refine RG.nil ?_) | ((with_reducible refine AW.text ?_); refine RG.runG ty_ok 0 400 rfl ?_) | ((with_reducible refine AW.draws mixed_ok ?_); refine RG.runG ty_ok 0 400 rfl ?_)))
    refine RG.ownN [(102, 0), (103, 1)] [(0, 102), (1, 103)] (fun q => m_Size _ q) rfl rfl rfl rfl rfl rfl rfl rfl rfl rfl ?_
    refine RG.runO ty_ok 0 [(55, .b true)] 400 rfl ⟨congrArg AV.b (decide_eq_true hA), trivial⟩ ?_
    skip; (repeat (first | with_reducible refine AW.seq ?_ | with_reducible refine AW.skip ?_ | with_reducible refine AW.block ?_ | ((with_reducible refine RG.id ?_); refine RG.nil ⟨?_, ?_⟩; · kernel_rfl) | ((with_reducible refine RG.id ?_); refine RG.nil ?_) | ((with_reducible refine AW.text ?_); refine RG.runG ty_ok 0 400 rfl ?_) | ((with_reducible refine AW.draws mixed_ok ?_); refine RG.runG ty_ok 0 400 rfl ?_))); refine AW.ret (retQB rfl rfl ?_)
    rfl
  · refine RG.ownN [(102, 0), (103, 1)] [(0, 102), (1, 103)] (fun q => m_Add_cut { b0 with fuse := max (fuse : Int) (-1) } e rfl hf (okEn_of hf).2 (Nat.zero_le _) (by rw [hmx]; constructor <;> simp only <;> omega) (by rw [hR]; simp only; omega) q) rfl rfl rfl rfl rfl rfl rfl rfl rfl rfl ?_
    rw [hR]
    refine RG.runG ty_ok 0 400 rfl ?_; (repeat (first | with_reducible refine AW.seq ?_ | with_reducible refine AW.skip ?_ | with_reducible refine AW.block ?_ | ((with_reducible refine RG.id ?_); refine RG.nil ⟨?_, ?_⟩; · kernel_rfl) | ((with_reducible refine RG.id ?_); refine RG.nil ?_) | with_reducible refine AW.text ?_ | with_reducible refine AW.draws mixed_ok ?_))
    refine RG.runO ty_ok 0 [(48, .b false)] 400 rfl ⟨congrArg AV.b (decide_eq_false (by omega)), trivial⟩ ?_
    skip; (repeat (first | with_reducible refine AW.seq ?_ | with_reducible refine AW.skip ?_ | with_reducible refine AW.block ?_ | ((with_reducible refine RG.id ?_); refine RG.nil ⟨?_, ?_⟩; · kernel_rfl) | ((with_reducible refine RG.id ?_); refine RG.nil ?_) | ((with_reducible refine AW.text ?_); refine RG.runG ty_ok 0 400 rfl ?_) | ((with_reducible refine AW.draws mixed_ok ?_); refine RG.runG ty_ok 0 400 rfl ?_))); refine AW.condF rfl ?_; skip; (repeat (first | with_reducible refine AW.seq ?_ | with_reducible refine AW.skip ?_ | with_reducible refine AW.block ?_ | ((with_reducible refine RG.id ?_); refine RG.nil ⟨?_, ?_⟩; · kernel_rfl) | ((with_reducible refine RG.id ?_); refine RG.nil ?_) | ((with_reducible refine AW.text ?_); refine RG.runG ty_ok 0 400 rfl ?_) | ((with_reducible refine AW.draws mixed_ok ?_); refine RG.runG ty_ok 0 400 rfl ?_)))
    refine RG.ownN [(102, 0), (103, 1)] [(0, 102), (1, 103)] (fun q => m_Size _ q) rfl rfl rfl rfl rfl rfl rfl rfl rfl rfl ?_
    obtain ⟨c, hc⟩ : ∃ c, c = Bk.cut { b0 with fuse := max (fuse : Int) (-1) } R := ⟨_, rfl⟩
    rw [← hc]
    have hcall : c.all = R.take fuse := by
      rw [hc]
      show [] ++ R.take (max (fuse : Int) (-1)).toNat = _
      rw [hmx, Int.toNat_natCast, List.nil_append]
    have hclen : c.all.length = fuse := by rw [hcall, List.length_take]; omega
    have hcs : c.sure = 0 := by rw [hc]; rfl
    refine RG.runO ty_ok 0 [(63, .b false)] 400 rfl ⟨congrArg (fun x => AV.b (!x)) (decide_eq_true (by rw [byteEls_len, hclen])), trivial⟩ ?_
    skip; (repeat (first | with_reducible refine AW.seq ?_ | with_reducible refine AW.skip ?_ | with_reducible refine AW.block ?_ | ((with_reducible refine RG.id ?_); refine RG.nil ⟨?_, ?_⟩; · kernel_rfl) | ((with_reducible refine RG.id ?_); refine RG.nil ?_) | ((with_reducible refine AW.text ?_); refine RG.runG ty_ok 0 400 rfl ?_) | ((with_reducible refine AW.draws mixed_ok ?_); refine RG.runG ty_ok 0 400 rfl ?_))); refine AW.condF rfl ?_; skip; (repeat (first | with_reducible refine AW.seq ?_ | with_reducible refine AW.skip ?_ | with_reducible refine AW.block ?_ | ((with_reducible refine RG.id ?_); refine RG.nil ⟨?_, ?_⟩; · kernel_rfl) | ((with_reducible refine RG.id ?_); refine RG.nil ?_) | ((with_reducible refine AW.text ?_); refine RG.runG ty_ok 0 400 rfl ?_) | ((with_reducible refine AW.draws mixed_ok ?_); refine RG.runG ty_ok 0 400 rfl ?_)))
    refine RG.ownN [(102, 0), (103, 1)] [(0, 102), (1, 103)] (fun q => m_Crash c keep (by rw [hcs]; omega) (by rw [hclen]; omega) q) rfl rfl rfl rfl rfl rfl rfl rfl rfl rfl ?_
    refine RG.runG ty_ok 0 400 rfl ?_; (repeat (first | with_reducible refine AW.seq ?_ | with_reducible refine AW.skip ?_ | with_reducible refine AW.block ?_ | ((with_reducible refine RG.id ?_); refine RG.nil ⟨?_, ?_⟩; · kernel_rfl) | ((with_reducible refine RG.id ?_); refine RG.nil ?_) | ((with_reducible refine AW.text ?_); refine RG.runG ty_ok 0 400 rfl ?_) | ((with_reducible refine AW.draws mixed_ok ?_); refine RG.runG ty_ok 0 400 rfl ?_)))
    obtain ⟨d, hd⟩ : ∃ d, d = c.crash keep := ⟨_, rfl⟩
    rw [← hd]
    have hdd : d.dead = false := by rw [hd]; rfl
    obtain ⟨w, hw⟩ : ∃ w, w = c.keeps keep := ⟨_, rfl⟩
    have hw1 : (w : Int) = max 0 (min keep fuse) := by
      rw [hw, Bk.keeps, hcs, hclen]
      omega
    have hdall : d.all = R.take w := by
      rw [hd]
      show c.all.take (c.keeps keep) = _
      rw [← hw, hcall, List.take_take]
      congr 1
      omega
    have hdlen : d.all.length = w := by rw [hdall, List.length_take]; omega
    refine AW.cutT (ι := Unit) (fun _ => [(8, .own 102 0 0), (9, .i .i64 R.length), (10, .i .i64 fuse), (12, .i .i64 (max keep 0))]) (fun _ => bkAt 102 103 d) (fun _ => True) ?_ fun _ _ => ?_
    · refine AW.cond rfl (fun h => ?_) (fun h => ?_)
      · have h : keep < 0 := by simpa using h
        skip; (repeat (first | with_reducible refine AW.seq ?_ | with_reducible refine AW.skip ?_ | with_reducible refine AW.block ?_ | ((with_reducible refine RG.id ?_); refine RG.nil ⟨?_, ?_⟩; · kernel_rfl) | ((with_reducible refine RG.id ?_); refine RG.nil ?_) | ((with_reducible refine AW.text ?_); refine RG.runG ty_ok 0 400 rfl ?_) | ((with_reducible refine AW.draws mixed_ok ?_); refine RG.runG ty_ok 0 400 rfl ?_)))
        exact ⟨(), trivial, ⟨Rn.ownIs rfl rfl rfl, Rn.is rfl rfl, Rn.is rfl rfl, .is (congrArg (AV.i .i64) (show (0 : Int) = max keep 0 by omega)) rfl, trivial⟩, .boxL rfl ⟨Rn.rowIs rfl rfl rfl, Rn.is rfl rfl, Rn.is rfl rfl, Rn.is rfl rfl, trivial⟩ rfl, .row rfl rfl, trivial⟩
      · have h : ¬ keep < 0 := by simpa using h
        skip; (repeat (first | with_reducible refine AW.seq ?_ | with_reducible refine AW.skip ?_ | with_reducible refine AW.block ?_ | ((with_reducible refine RG.id ?_); refine RG.nil ⟨?_, ?_⟩; · kernel_rfl) | ((with_reducible refine RG.id ?_); refine RG.nil ?_) | ((with_reducible refine AW.text ?_); refine RG.runG ty_ok 0 400 rfl ?_) | ((with_reducible refine AW.draws mixed_ok ?_); refine RG.runG ty_ok 0 400 rfl ?_)))
        exact ⟨(), trivial, ⟨Rn.ownIs rfl rfl rfl, Rn.is rfl rfl, Rn.is rfl rfl, .is (congrArg (AV.i .i64) (show keep = max keep 0 by omega)) rfl, trivial⟩, .boxL rfl ⟨Rn.rowIs rfl rfl rfl, Rn.is rfl rfl, Rn.is rfl rfl, Rn.is rfl rfl, trivial⟩ rfl, .row rfl rfl, trivial⟩
    skip; (repeat (first | with_reducible refine AW.seq ?_ | with_reducible refine AW.skip ?_ | with_reducible refine AW.block ?_ | ((with_reducible refine RG.id ?_); refine RG.nil ⟨?_, ?_⟩; · kernel_rfl) | ((with_reducible refine RG.id ?_); refine RG.nil ?_) | ((with_reducible refine AW.text ?_); refine RG.runG ty_ok 0 400 rfl ?_) | ((with_reducible refine AW.draws mixed_ok ?_); refine RG.runG ty_ok 0 400 rfl ?_)))
    refine AW.cutT (ι := Unit) (fun _ => [(8, .own 102 0 0), (9, .i .i64 R.length), (10, .i .i64 fuse), (12, .i .i64 w)]) (fun _ => bkAt 102 103 d) (fun _ => True) ?_ fun _ _ => ?_
    · refine AW.cond rfl (fun h => ?_) (fun h => ?_)
      · have h : (fuse : Int) < max keep 0 := by simpa using h
        skip; (repeat (first | with_reducible refine AW.seq ?_ | with_reducible refine AW.skip ?_ | with_reducible refine AW.block ?_ | ((with_reducible refine RG.id ?_); refine RG.nil ⟨?_, ?_⟩; · kernel_rfl) | ((with_reducible refine RG.id ?_); refine RG.nil ?_) | ((with_reducible refine AW.text ?_); refine RG.runG ty_ok 0 400 rfl ?_) | ((with_reducible refine AW.draws mixed_ok ?_); refine RG.runG ty_ok 0 400 rfl ?_)))
        exact ⟨(), trivial, ⟨Rn.ownIs rfl rfl rfl, Rn.is rfl rfl, Rn.is rfl rfl, .is (congrArg (AV.i .i64) (show (fuse : Int) = w by omega)) rfl, trivial⟩, .boxL rfl ⟨Rn.rowIs rfl rfl rfl, Rn.is rfl rfl, Rn.is rfl rfl, Rn.is rfl rfl, trivial⟩ rfl, .row rfl rfl, trivial⟩
      · have h : ¬ (fuse : Int) < max keep 0 := by simpa using h
        skip; (repeat (first | with_reducible refine AW.seq ?_ | with_reducible refine AW.skip ?_ | with_reducible refine AW.block ?_ | ((with_reducible refine RG.id ?_); refine RG.nil ⟨?_, ?_⟩; · kernel_rfl) | ((with_reducible refine RG.id ?_); refine RG.nil ?_) | ((with_reducible refine AW.text ?_); refine RG.runG ty_ok 0 400 rfl ?_) | ((with_reducible refine AW.draws mixed_ok ?_); refine RG.runG ty_ok 0 400 rfl ?_)))
        exact ⟨(), trivial, ⟨Rn.ownIs rfl rfl rfl, Rn.is rfl rfl, Rn.is rfl rfl, .is (congrArg (AV.i .i64) (show max keep 0 = w by omega)) rfl, trivial⟩, .boxL rfl ⟨Rn.rowIs rfl rfl rfl, Rn.is rfl rfl, Rn.is rfl rfl, Rn.is rfl rfl, trivial⟩ rfl, .row rfl rfl, trivial⟩
    skip; (repeat (first | with_reducible refine AW.seq ?_ | with_reducible refine AW.skip ?_ | with_reducible refine AW.block ?_ | ((with_reducible refine RG.id ?_); refine RG.nil ⟨?_, ?_⟩; · kernel_rfl) | ((with_reducible refine RG.id ?_); refine RG.nil ?_) | ((with_reducible refine AW.text ?_); refine RG.runG ty_ok 0 400 rfl ?_) | ((with_reducible refine AW.draws mixed_ok ?_); refine RG.runG ty_ok 0 400 rfl ?_)))
    refine RG.ownN [(102, 0), (103, 1)] [(0, 102), (1, 103)] (fun q => m_Size d q) rfl rfl rfl rfl rfl rfl rfl rfl rfl rfl ?_
    refine RG.runO ty_ok 0 [(78, .b false)] 400 rfl ⟨congrArg (fun x => AV.b (!x)) (decide_eq_true (by rw [byteEls_len, hdlen])), trivial⟩ ?_
    skip; (repeat (first | with_reducible refine AW.seq ?_ | with_reducible refine AW.skip ?_ | with_reducible refine AW.block ?_ | ((with_reducible refine RG.id ?_); refine RG.nil ⟨?_, ?_⟩; · kernel_rfl) | ((with_reducible refine RG.id ?_); refine RG.nil ?_) | ((with_reducible refine AW.text ?_); refine RG.runG ty_ok 0 400 rfl ?_) | ((with_reducible refine AW.draws mixed_ok ?_); refine RG.runG ty_ok 0 400 rfl ?_))); refine AW.condF rfl ?_; skip; (repeat (first | with_reducible refine AW.seq ?_ | with_reducible refine AW.skip ?_ | with_reducible refine AW.block ?_ | ((with_reducible refine RG.id ?_); refine RG.nil ⟨?_, ?_⟩; · kernel_rfl) | ((with_reducible refine RG.id ?_); refine RG.nil ?_) | ((with_reducible refine AW.text ?_); refine RG.runG ty_ok 0 400 rfl ?_) | ((with_reducible refine AW.draws mixed_ok ?_); refine RG.runG ty_ok 0 400 rfl ?_)))
    by_cases hwn : w = R.length
    · have hE := fun q => m_Entries d hdd [e] [] (.inl (by simp)) (fun x hx => by
        obtain rfl := List.mem_singleton.1 hx
        exact okEn_of hf) (by rw [hdall, hwn, List.take_length, ← hR]; simp) (by rw [hdlen]; omega) q
      refine RG.ownN [(102, 0), (103, 1)] [(0, 102), (1, 103)] hE rfl rfl rfl rfl rfl rfl rfl rfl rfl rfl ?_
      refine RG.runG ty_ok 0 400 rfl ?_; (repeat (first | with_reducible refine AW.seq ?_ | with_reducible refine AW.skip ?_ | with_reducible refine AW.block ?_ | ((with_reducible refine RG.id ?_); refine RG.nil ⟨?_, ?_⟩; · kernel_rfl) | ((with_reducible refine RG.id ?_); refine RG.nil ?_) | with_reducible refine AW.text ?_ | with_reducible refine AW.draws mixed_ok ?_))
      refine RG.runO ty_ok 0 [(89, .b true), (92, .b true), (98, .b true)] 400 rfl ⟨congrArg AV.b (decide_eq_true (by omega)), congrArg AV.b (decide_eq_true (by omega)), congrArg AV.b (decide_eq_true rfl), trivial⟩ ?_
      skip; (repeat (first | with_reducible refine AW.seq ?_ | with_reducible refine AW.skip ?_ | with_reducible refine AW.block ?_ | ((with_reducible refine RG.id ?_); refine RG.nil ⟨?_, ?_⟩; · kernel_rfl) | ((with_reducible refine RG.id ?_); refine RG.nil ?_) | ((with_reducible refine AW.text ?_); refine RG.runG ty_ok 0 400 rfl ?_) | ((with_reducible refine AW.draws mixed_ok ?_); refine RG.runG ty_ok 0 400 rfl ?_))); refine AW.ret (retQB rfl rfl ?_)
      rfl
    · have hE := fun q => m_Entries d hdd [] (R.take w) (by rw [← hR]; exact part_of (okEn_of hf) (by rw [hR]; omega)) (fun x hx => by cases hx) (by rw [hdall]; rfl) (by rw [hdlen]; omega) q
      refine RG.ownN [(102, 0), (103, 1)] [(0, 102), (1, 103)] hE rfl rfl rfl rfl rfl rfl rfl rfl rfl rfl ?_
      refine RG.runG ty_ok 0 400 rfl ?_; (repeat (first | with_reducible refine AW.seq ?_ | with_reducible refine AW.skip ?_ | with_reducible refine AW.block ?_ | ((with_reducible refine RG.id ?_); refine RG.nil ⟨?_, ?_⟩; · kernel_rfl) | ((with_reducible refine RG.id ?_); refine RG.nil ?_) | with_reducible refine AW.text ?_ | with_reducible refine AW.draws mixed_ok ?_))
      refine RG.runO ty_ok 0 [(89, .b false), (92, .b false), (98, .b false)] 400 rfl ⟨congrArg AV.b (decide_eq_false (by omega)), congrArg AV.b (decide_eq_false (by omega)), congrArg AV.b (decide_eq_false (by decide)), trivial⟩ ?_
      refine RG.ownN [(102, 0), (103, 1)] [(0, 102), (1, 103)] (fun q => m_Size _ q) rfl rfl rfl rfl rfl rfl rfl rfl rfl rfl ?_
      refine RG.runG ty_ok 0 400 rfl ?_; (repeat (first | with_reducible refine AW.seq ?_ | with_reducible refine AW.skip ?_ | with_reducible refine AW.block ?_ | ((with_reducible refine RG.id ?_); refine RG.nil ⟨?_, ?_⟩; · kernel_rfl) | ((with_reducible refine RG.id ?_); refine RG.nil ?_) | ((with_reducible refine AW.text ?_); refine RG.runG ty_ok 0 400 rfl ?_) | ((with_reducible refine AW.draws mixed_ok ?_); refine RG.runG ty_ok 0 400 rfl ?_))); refine AW.ret (retQB rfl rfl ?_)
      rfl
end Go.Proofs.Ytpaldbejnbcokaa.Sm
end
section
namespace Go.Proofs.Ytpaldbejnbcokaa.Sm
open Go.RowKit
set_option linter.unusedVariables false
set_option maxRecDepth 100000
set_option maxHeartbeats 4000000
theorem i64of_nat {n : Nat} (h : n < 9223372036854775808) : i64of (UInt64.ofNat n) = n := by
  unfold i64of
  rw [UInt64.toNat_ofNat', Nat.mod_eq_of_lt (by omega)]
  unfold wrap64
  omega
/-- The entry that is added at a place. -/
def entO (ks : List UInt8) (k : Nat) : En := ⟨UInt64.ofNat (ks.getD k 0).toNat, 0, UInt64.ofNat k, zeroC⟩
def entsO (ks : List UInt8) (k : Nat) : List En := (List.range k).map (entO ks)
def bo (ks : List UInt8) (k : Nat) : Bk := ⟨(entsO ks k).flatMap recE, ((entsO ks k).flatMap recE).length, -1, false⟩
theorem entsO_next (ks : List UInt8) (k : Nat) : (entsO ks (k + 1)).flatMap recE = (entsO ks k).flatMap recE ++ recE (entO ks k) := by
  rw [entsO, List.range_succ, List.map_append, List.flatMap_append]
  simp [entsO]
theorem bo_len (ks : List UInt8) : ∀ k, ((entsO ks k).flatMap recE).length = 76 * k
  | 0 => rfl
  | k + 1 => by
    rw [entsO_next, List.length_append, bo_len ks k, show (recE (entO ks k)).length = 76 from rec_zero ..]
    omega
theorem bo_next (ks : List UInt8) (k : Nat) : (bo ks k).added (recE (entO ks k)) = bo ks (k + 1) := by
  show Bk.mk _ _ _ _ = Bk.mk _ _ _ _
  rw [entsO_next, List.length_append]
  rfl
theorem bo_crash (ks : List UInt8) (k : Nat) (n : Int) : (bo ks k).crash n = bo ks k := by
  have h : (bo ks k).keeps n = ((entsO ks k).flatMap recE).length := by
    show ((entsO ks k).flatMap recE).length + _ = _
    show ((entsO ks k).flatMap recE).length + (max 0 (min n ((((entsO ks k).flatMap recE).length : Int) - ((entsO ks k).flatMap recE).length))).toNat = _
    omega
  rw [Bk.crash, h]
  show Bk.mk (((entsO ks k).flatMap recE).take _) _ _ _ = _
  rw [List.take_length]
  rfl
theorem enC_entO {ks : List UInt8} {k : Nat} (h : k < ks.length) (hk : k < 1000) : enC (entO ks k) = [.i .i64 (IntKind.i64.wrap (ks[k].toNat : Int)), .i .i64 0, .i .i64 (k : Nat), .sl [], .i .i64 0, .sl [], .sl [], .sl []] := by
  have h1 := ks[k].toNat_lt
  have e1 : i64of (UInt64.ofNat (ks[k].toNat)) = IntKind.i64.wrap (ks[k].toNat : Int) := by rw [i64of_nat (by omega), IntKind.wrap_i64]; omega
  have e2 : i64of (UInt64.ofNat k) = k := i64of_nat (by omega)
  have e3 : ks.getD k 0 = ks[k] := by simp [h]
  simp only [enC, cfgC, entO, zeroC, e3, e1, e2, line_i, List.map_nil, List.cons_append, List.nil_append]
theorem BookOrder_d (ks : List UInt8) (kp : List UInt64) : PDoes Try.prog 11 [.sl (byteEls ks), .sl (kp.map fun x => [.i .i64 (i64of x)])] (.b true) := by
  refine PDoes.of_bodyN Try.func11 rfl (by kernel_rfl) rfl rfl ?_
  skip; (repeat (first | with_reducible refine AW.seq ?_ | with_reducible refine AW.skip ?_ | with_reducible refine AW.block ?_ | ((with_reducible refine RG.id ?_); refine RG.nil ⟨?_, ?_⟩; · kernel_rfl) | ((with_reducible refine RG.id ?_); refine RG.nil ?_) | ((with_reducible refine AW.text ?_); refine RG.runG ty_ok 0 400 rfl ?_) | ((with_reducible refine AW.draws mixed_ok ?_); refine RG.runG ty_ok 0 400 rfl ?_)))
  refine RG.ownN [] [(2, 100), (1, 101)] (fun q => m_New q) rfl rfl rfl rfl rfl rfl rfl rfl rfl rfl ?_
  refine RG.runG ty_ok 0 400 rfl ?_; (repeat (first | with_reducible refine AW.seq ?_ | with_reducible refine AW.skip ?_ | with_reducible refine AW.block ?_ | ((with_reducible refine RG.id ?_); refine RG.nil ⟨?_, ?_⟩; · kernel_rfl) | ((with_reducible refine RG.id ?_); refine RG.nil ?_) | ((with_reducible refine AW.text ?_); refine RG.runG ty_ok 0 400 rfl ?_) | ((with_reducible refine AW.draws mixed_ok ?_); refine RG.runG ty_ok 0 400 rfl ?_)))
  refine RG.callS rfl rfl rfl rfl rfl d_awake22 rfl rfl ?_
  refine RG.runG ty_ok 0 400 rfl ?_; (repeat (first | with_reducible refine AW.seq ?_ | with_reducible refine AW.skip ?_ | with_reducible refine AW.block ?_ | ((with_reducible refine RG.id ?_); refine RG.nil ⟨?_, ?_⟩; · kernel_rfl) | ((with_reducible refine RG.id ?_); refine RG.nil ?_) | ((with_reducible refine AW.text ?_); refine RG.runG ty_ok 0 400 rfl ?_) | ((with_reducible refine AW.draws mixed_ok ?_); refine RG.runG ty_ok 0 400 rfl ?_))); refine AW.condF rfl ?_; skip; (repeat (first | with_reducible refine AW.seq ?_ | with_reducible refine AW.skip ?_ | with_reducible refine AW.block ?_ | ((with_reducible refine RG.id ?_); refine RG.nil ⟨?_, ?_⟩; · kernel_rfl) | ((with_reducible refine RG.id ?_); refine RG.nil ?_) | ((with_reducible refine AW.text ?_); refine RG.runG ty_ok 0 400 rfl ?_) | ((with_reducible refine AW.draws mixed_ok ?_); refine RG.runG ty_ok 0 400 rfl ?_)))
  refine AW.loopL (ι := Nat) (fun k => [(0, .sl (byteEls ks)), (1, .sl (kp.map fun x => [.i .i64 (i64of x)])), (5, .own 100 0 0), (6, .i .i64 (k : Nat)), (7, .i .i64 (k : Nat))]) (fun k => bkAt 100 101 (bo ks k)) (fun k => k ≤ ks.length ∧ k ≤ 40) (fun k => 40 - k) 0 ⟨Nat.zero_le _, Nat.zero_le _⟩ ⟨Rn.is rfl rfl, Rn.is rfl rfl, Rn.ownIs rfl rfl rfl, Rn.is rfl rfl, Rn.is rfl rfl, trivial⟩ ⟨.boxL rfl ⟨Rn.rowIs rfl rfl rfl, Rn.is rfl rfl, Rn.is rfl rfl, Rn.is rfl rfl, trivial⟩ rfl, .row rfl rfl, trivial⟩ fun k ⟨hk, hk40⟩ => ?_
  skip; (repeat (first | with_reducible refine AW.seq ?_ | with_reducible refine AW.skip ?_ | with_reducible refine AW.block ?_ | ((with_reducible refine RG.id ?_); refine RG.nil ⟨?_, ?_⟩; · kernel_rfl) | ((with_reducible refine RG.id ?_); refine RG.nil ?_)))
  have hlen : ((byteEls ks).length : Int) = ks.length := by rw [byteEls_len]
  refine AW.cutT (ι := Unit) (fun _ => [(0, .sl (byteEls ks)), (1, .sl (kp.map fun x => [.i .i64 (i64of x)])), (5, .own 100 0 0), (6, .i .i64 (k : Nat)), (7, .i .i64 (k : Nat)), (25, .b (decide (k < ks.length ∧ k < 40)))]) (fun _ => bkAt 100 101 (bo ks k)) (fun _ => True) ?_ fun _ _ => ?_
  · refine AW.text ?_
    by_cases h1 : k < ks.length
    · refine RG.runO ty_ok 0 [(21, .b true), (24, .b (decide (k < 40)))] 400 rfl ⟨congrArg AV.b (show decide ((k : Int) < 40) = _ by simp only [decide_eq_decide]; omega), congrArg AV.b (decide_eq_true (show (k : Int) < ((byteEls ks).length : Nat) by omega)), trivial⟩ ?_
      skip; (repeat (first | with_reducible refine AW.seq ?_ | with_reducible refine AW.skip ?_ | with_reducible refine AW.block ?_ | ((with_reducible refine RG.id ?_); refine RG.nil ⟨?_, ?_⟩; · kernel_rfl) | ((with_reducible refine RG.id ?_); refine RG.nil ?_)))
      exact ⟨(), trivial, ⟨Rn.is rfl rfl, Rn.is rfl rfl, Rn.ownIs rfl rfl rfl, Rn.is rfl rfl, Rn.is rfl rfl, .is (congrArg AV.b (show decide (k < 40) = decide (k < ks.length ∧ k < 40) by simp [h1])) rfl, trivial⟩, .boxL rfl ⟨Rn.rowIs rfl rfl rfl, Rn.is rfl rfl, Rn.is rfl rfl, Rn.is rfl rfl, trivial⟩ rfl, .row rfl rfl, trivial⟩
    · refine RG.runO ty_ok 0 [(21, .b false)] 400 rfl ⟨congrArg AV.b (decide_eq_false (show ¬ (k : Int) < ((byteEls ks).length : Nat) by omega)), trivial⟩ ?_
      skip; (repeat (first | with_reducible refine AW.seq ?_ | with_reducible refine AW.skip ?_ | with_reducible refine AW.block ?_ | ((with_reducible refine RG.id ?_); refine RG.nil ⟨?_, ?_⟩; · kernel_rfl) | ((with_reducible refine RG.id ?_); refine RG.nil ?_)))
      exact ⟨(), trivial, ⟨Rn.is rfl rfl, Rn.is rfl rfl, Rn.ownIs rfl rfl rfl, Rn.is rfl rfl, Rn.is rfl rfl, .is (congrArg AV.b (show false = decide (k < ks.length ∧ k < 40) by simp [h1])) rfl, trivial⟩, .boxL rfl ⟨Rn.rowIs rfl rfl rfl, Rn.is rfl rfl, Rn.is rfl rfl, Rn.is rfl rfl, trivial⟩ rfl, .row rfl rfl, trivial⟩
  refine AW.cond rfl (fun hlt => ?_) (fun hlt => ?_)
  · have hlt : k < ks.length ∧ k < 40 := of_decide_eq_true hlt
    skip; (repeat (first | with_reducible refine AW.seq ?_ | with_reducible refine AW.skip ?_ | with_reducible refine AW.block ?_ | ((with_reducible refine RG.id ?_); refine RG.nil ⟨?_, ?_⟩; · kernel_rfl) | ((with_reducible refine RG.id ?_); refine RG.nil ?_) | ((with_reducible refine AW.text ?_); refine RG.runG ty_ok 0 400 rfl ?_) | ((with_reducible refine AW.draws mixed_ok ?_); refine RG.runG ty_ok 0 400 rfl ?_)))
    refine RG.opS rfl (op_index rfl (tab_ok ty_ok rfl) rfl (tab_ok ty_ok rfl) rfl rfl (show (byteEls ks)[k]? = some [.y ks[k]] by simp [byteEls, hlt.1]) rfl) rfl ?_
    refine RG.runG ty_ok 0 400 rfl ?_; (repeat (first | with_reducible refine AW.seq ?_ | with_reducible refine AW.skip ?_ | with_reducible refine AW.block ?_ | ((with_reducible refine RG.id ?_); refine RG.nil ⟨?_, ?_⟩; · kernel_rfl) | ((with_reducible refine RG.id ?_); refine RG.nil ?_) | ((with_reducible refine AW.text ?_); refine RG.runG ty_ok 0 400 rfl ?_) | ((with_reducible refine AW.draws mixed_ok ?_); refine RG.runG ty_ok 0 400 rfl ?_)))
    have hadd := fun q => m_Add_ok (bo ks k) (entO ks k) rfl zero_fit (okEn_of zero_fit).2 (by show ((entsO ks k).flatMap recE).length ≤ _; rw [bo_len]; omega) (show (-1 : Int) ≤ -1 ∧ (-1 : Int) ≤ 9223372036854775807 by decide) (.inl (show (-1 : Int) < 0 by decide)) q
    rw [bo_next, enC_entO hlt.1 (by omega)] at hadd
    refine RG.ownN [(100, 0), (101, 1)] [(0, 100), (1, 101)] hadd rfl rfl rfl rfl rfl rfl rfl rfl rfl rfl ?_
    refine RG.runG ty_ok 0 400 rfl ?_; (repeat (first | with_reducible refine AW.seq ?_ | with_reducible refine AW.skip ?_ | with_reducible refine AW.block ?_ | ((with_reducible refine RG.id ?_); refine RG.nil ⟨?_, ?_⟩; · kernel_rfl) | ((with_reducible refine RG.id ?_); refine RG.nil ?_) | ((with_reducible refine AW.text ?_); refine RG.runG ty_ok 0 400 rfl ?_) | ((with_reducible refine AW.draws mixed_ok ?_); refine RG.runG ty_ok 0 400 rfl ?_))); refine AW.condF rfl ?_; skip; (repeat (first | with_reducible refine AW.seq ?_ | with_reducible refine AW.skip ?_ | with_reducible refine AW.block ?_ | ((with_reducible refine RG.id ?_); refine RG.nil ⟨?_, ?_⟩; · kernel_rfl) | ((with_reducible refine RG.id ?_); refine RG.nil ?_) | ((with_reducible refine AW.text ?_); refine RG.runG ty_ok 0 400 rfl ?_) | ((with_reducible refine AW.draws mixed_ok ?_); refine RG.runG ty_ok 0 400 rfl ?_)))
    have hnx : AV.i .i64 (IntKind.i64.wrap ((k : Int) + 1)) = .i .i64 ((k + 1 : Nat) : Int) := i64_next hlt.2 (by omega)
    refine AW.cond rfl (fun h => ?_) (fun h => ?_)
    · have h : k < kp.length := by simpa using h
      skip; (repeat (first | with_reducible refine AW.seq ?_ | with_reducible refine AW.skip ?_ | with_reducible refine AW.block ?_ | ((with_reducible refine RG.id ?_); refine RG.nil ⟨?_, ?_⟩; · kernel_rfl) | ((with_reducible refine RG.id ?_); refine RG.nil ?_) | ((with_reducible refine AW.text ?_); refine RG.runG ty_ok 0 400 rfl ?_) | ((with_reducible refine AW.draws mixed_ok ?_); refine RG.runG ty_ok 0 400 rfl ?_)))
      refine RG.opS rfl (op_index rfl (tab_ok ty_ok rfl) rfl (tab_ok ty_ok rfl) rfl rfl (show (kp.map fun x => [AV.i .i64 (i64of x)])[k]? = some [.i .i64 (i64of kp[k])] by simp [h]) rfl) rfl ?_
      refine RG.runG ty_ok 0 400 rfl ?_; (repeat (first | with_reducible refine AW.seq ?_ | with_reducible refine AW.skip ?_ | with_reducible refine AW.block ?_ | ((with_reducible refine RG.id ?_); refine RG.nil ⟨?_, ?_⟩; · kernel_rfl) | ((with_reducible refine RG.id ?_); refine RG.nil ?_) | ((with_reducible refine AW.text ?_); refine RG.runG ty_ok 0 400 rfl ?_) | ((with_reducible refine AW.draws mixed_ok ?_); refine RG.runG ty_ok 0 400 rfl ?_)))
      have hcr := fun q => m_Crash (bo ks (k + 1)) (i64of kp[k]) (Nat.le_refl _) (by show ((entsO ks (k + 1)).flatMap recE).length ≤ _; rw [bo_len]; omega) q
      rw [bo_crash] at hcr
      refine RG.ownN [(100, 0), (101, 1)] [(0, 100), (1, 101)] hcr rfl rfl rfl rfl rfl rfl rfl rfl rfl rfl ?_
      refine RG.runG ty_ok 0 400 rfl ?_; (repeat (first | with_reducible refine AW.seq ?_ | with_reducible refine AW.skip ?_ | with_reducible refine AW.block ?_ | ((with_reducible refine RG.id ?_); refine RG.nil ⟨?_, ?_⟩; · kernel_rfl) | ((with_reducible refine RG.id ?_); refine RG.nil ?_) | ((with_reducible refine AW.text ?_); refine RG.runG ty_ok 0 400 rfl ?_) | ((with_reducible refine AW.draws mixed_ok ?_); refine RG.runG ty_ok 0 400 rfl ?_)))
      exact ⟨k + 1, ⟨⟨by omega, by omega⟩, by omega⟩, ⟨Rn.is rfl rfl, Rn.is rfl rfl, Rn.ownIs rfl rfl rfl, .is hnx rfl, .is hnx rfl, trivial⟩, .boxL rfl ⟨Rn.rowIs rfl rfl rfl, Rn.is rfl rfl, Rn.is rfl rfl, Rn.is rfl rfl, trivial⟩ rfl, .row rfl rfl, trivial⟩
    · skip
      skip; (repeat (first | with_reducible refine AW.seq ?_ | with_reducible refine AW.skip ?_ | with_reducible refine AW.block ?_ | ((with_reducible refine RG.id ?_); refine RG.nil ⟨?_, ?_⟩; · kernel_rfl) | ((with_reducible refine RG.id ?_); refine RG.nil ?_) | ((with_reducible refine AW.text ?_); refine RG.runG ty_ok 0 400 rfl ?_) | ((with_reducible refine AW.draws mixed_ok ?_); refine RG.runG ty_ok 0 400 rfl ?_)))
      exact ⟨k + 1, ⟨⟨by omega, by omega⟩, by omega⟩, ⟨Rn.is rfl rfl, Rn.is rfl rfl, Rn.ownIs rfl rfl rfl, .is hnx rfl, .is hnx rfl, trivial⟩, .boxL rfl ⟨Rn.rowIs rfl rfl rfl, Rn.is rfl rfl, Rn.is rfl rfl, Rn.is rfl rfl, trivial⟩ rfl, .row rfl rfl, trivial⟩
  · have hlt : ¬ (k < ks.length ∧ k < 40) := of_decide_eq_false hlt
    skip; (repeat (first | with_reducible refine AW.seq ?_ | with_reducible refine AW.skip ?_ | with_reducible refine AW.block ?_ | ((with_reducible refine RG.id ?_); refine RG.nil ⟨?_, ?_⟩; · kernel_rfl) | ((with_reducible refine RG.id ?_); refine RG.nil ?_) | ((with_reducible refine AW.text ?_); refine RG.runG ty_ok 0 400 rfl ?_) | ((with_reducible refine AW.draws mixed_ok ?_); refine RG.runG ty_ok 0 400 rfl ?_)))
    refine AW.exit ?_
    refine Eq.mpr (if_pos rfl) ?_
    skip; (repeat (first | with_reducible refine AW.seq ?_ | with_reducible refine AW.skip ?_ | with_reducible refine AW.block ?_ | ((with_reducible refine RG.id ?_); refine RG.nil ⟨?_, ?_⟩; · kernel_rfl) | ((with_reducible refine RG.id ?_); refine RG.nil ?_) | ((with_reducible refine AW.text ?_); refine RG.runG ty_ok 0 400 rfl ?_) | ((with_reducible refine AW.draws mixed_ok ?_); refine RG.runG ty_ok 0 400 rfl ?_)))
    have hE := fun q => m_Entries (bo ks k) rfl (entsO ks k) [] (.inl (by simp)) (fun x hx => by
      obtain ⟨i, _, rfl⟩ := List.mem_map.1 hx
      exact okEn_of zero_fit) (List.append_nil _).symm (by show ((entsO ks k).flatMap recE).length ≤ _; rw [bo_len]; omega) q
    refine RG.ownN [(100, 0), (101, 1)] [(0, 100), (1, 101)] hE rfl rfl rfl rfl rfl rfl rfl rfl rfl rfl ?_
    refine RG.runG ty_ok 0 400 rfl ?_; (repeat (first | with_reducible refine AW.seq ?_ | with_reducible refine AW.skip ?_ | with_reducible refine AW.block ?_ | ((with_reducible refine RG.id ?_); refine RG.nil ⟨?_, ?_⟩; · kernel_rfl) | ((with_reducible refine RG.id ?_); refine RG.nil ?_) | with_reducible refine AW.text ?_ | with_reducible refine AW.draws mixed_ok ?_))
    have hel : ((((entsO ks k).map enC).length : Nat) : Int) = k := by simp [entsO]
    refine RG.runO ty_ok 0 [(61, .b false)] 400 rfl ⟨congrArg (fun x => AV.b (!x)) (decide_eq_true hel), trivial⟩ ?_
    skip; (repeat (first | with_reducible refine AW.seq ?_ | with_reducible refine AW.skip ?_ | with_reducible refine AW.block ?_ | ((with_reducible refine RG.id ?_); refine RG.nil ⟨?_, ?_⟩; · kernel_rfl) | ((with_reducible refine RG.id ?_); refine RG.nil ?_) | ((with_reducible refine AW.text ?_); refine RG.runG ty_ok 0 400 rfl ?_) | ((with_reducible refine AW.draws mixed_ok ?_); refine RG.runG ty_ok 0 400 rfl ?_))); refine AW.condF rfl ?_; skip; (repeat (first | with_reducible refine AW.seq ?_ | with_reducible refine AW.skip ?_ | with_reducible refine AW.block ?_ | ((with_reducible refine RG.id ?_); refine RG.nil ⟨?_, ?_⟩; · kernel_rfl) | ((with_reducible refine RG.id ?_); refine RG.nil ?_) | ((with_reducible refine AW.text ?_); refine RG.runG ty_ok 0 400 rfl ?_) | ((with_reducible refine AW.draws mixed_ok ?_); refine RG.runG ty_ok 0 400 rfl ?_)))
    refine AW.loopL (ι := Nat) (fun j => [(0, .sl (byteEls ks)), (6, .i .i64 (k : Nat)), (8, .sl ((entsO ks k).map enC)), (10, .i .i64 (j : Nat))]) (fun _ => []) (fun j => j ≤ k) (fun j => k - j) 0 (Nat.zero_le _) (by first | exact trivial | (repeat (first | exact trivial | refine ⟨Rn.is rfl rfl, ?_⟩ | refine ⟨Rn.ownIs rfl rfl rfl, ?_⟩ | refine ⟨Rn.rowIs rfl rfl rfl, ?_⟩ | refine ⟨WkB1.row rfl rfl, ?_⟩ | refine ⟨WkB1.same rfl rfl rfl, ?_⟩))) (by first | exact trivial | (repeat (first | exact trivial | refine ⟨Rn.is rfl rfl, ?_⟩ | refine ⟨Rn.ownIs rfl rfl rfl, ?_⟩ | refine ⟨Rn.rowIs rfl rfl rfl, ?_⟩ | refine ⟨WkB1.row rfl rfl, ?_⟩ | refine ⟨WkB1.same rfl rfl rfl, ?_⟩))) fun j hj => ?_
    skip; (repeat (first | with_reducible refine AW.seq ?_ | with_reducible refine AW.skip ?_ | with_reducible refine AW.block ?_ | ((with_reducible refine RG.id ?_); refine RG.nil ⟨?_, ?_⟩; · kernel_rfl) | ((with_reducible refine RG.id ?_); refine RG.nil ?_) | ((with_reducible refine AW.text ?_); refine RG.runG ty_ok 0 400 rfl ?_) | ((with_reducible refine AW.draws mixed_ok ?_); refine RG.runG ty_ok 0 400 rfl ?_)))
    refine AW.cond rfl (fun h => ?_) (fun h => ?_)
    · have h : j < k := by simpa using h
      have hidx : ((entsO ks k).map enC)[j]? = some [.i .i64 (IntKind.i64.wrap (ks[j].toNat : Int)), .i .i64 0, .i .i64 (j : Nat), .sl [], .i .i64 0, .sl [], .sl [], .sl []] := by
        rw [← enC_entO (by omega) (by omega)]
        simp [entsO, h]
      skip; (repeat (first | with_reducible refine AW.seq ?_ | with_reducible refine AW.skip ?_ | with_reducible refine AW.block ?_ | ((with_reducible refine RG.id ?_); refine RG.nil ⟨?_, ?_⟩; · kernel_rfl) | ((with_reducible refine RG.id ?_); refine RG.nil ?_) | ((with_reducible refine AW.text ?_); refine RG.runG ty_ok 0 400 rfl ?_) | ((with_reducible refine AW.draws mixed_ok ?_); refine RG.runG ty_ok 0 400 rfl ?_)))
      refine RG.opS rfl (op_index rfl (tab_ok ty_ok rfl) rfl (tab_ok ty_ok rfl) rfl rfl hidx rfl) rfl ?_
      refine RG.runO ty_ok 0 [(74, .b false)] 400 rfl ⟨congrArg (fun x => AV.b (!x)) (decide_eq_true rfl), trivial⟩ ?_
      refine RG.opS rfl (op_index rfl (tab_ok ty_ok rfl) rfl (tab_ok ty_ok rfl) rfl rfl hidx rfl) rfl ?_
      refine RG.runG ty_ok 0 400 rfl ?_
      refine RG.opS rfl (op_index rfl (tab_ok ty_ok rfl) rfl (tab_ok ty_ok rfl) rfl rfl (show (byteEls ks)[j]? = some [.y ks[j]] by simp [byteEls, show j < ks.length by omega]) rfl) rfl ?_
      refine RG.runO ty_ok 0 [(86, .b false)] 400 rfl ⟨congrArg (fun x => AV.b (!x)) (decide_eq_true rfl), trivial⟩ ?_
      skip; (repeat (first | with_reducible refine AW.seq ?_ | with_reducible refine AW.skip ?_ | with_reducible refine AW.block ?_ | ((with_reducible refine RG.id ?_); refine RG.nil ⟨?_, ?_⟩; · kernel_rfl) | ((with_reducible refine RG.id ?_); refine RG.nil ?_) | ((with_reducible refine AW.text ?_); refine RG.runG ty_ok 0 400 rfl ?_) | ((with_reducible refine AW.draws mixed_ok ?_); refine RG.runG ty_ok 0 400 rfl ?_))); refine AW.condF rfl ?_; skip; (repeat (first | with_reducible refine AW.seq ?_ | with_reducible refine AW.skip ?_ | with_reducible refine AW.block ?_ | ((with_reducible refine RG.id ?_); refine RG.nil ⟨?_, ?_⟩; · kernel_rfl) | ((with_reducible refine RG.id ?_); refine RG.nil ?_) | ((with_reducible refine AW.text ?_); refine RG.runG ty_ok 0 400 rfl ?_) | ((with_reducible refine AW.draws mixed_ok ?_); refine RG.runG ty_ok 0 400 rfl ?_)))
      exact ⟨j + 1, ⟨by omega, by omega⟩, ⟨Rn.is rfl rfl, Rn.is rfl rfl, Rn.is rfl rfl, .is (i64_next h (by omega)) rfl, trivial⟩, trivial⟩
    · skip
      skip; (repeat (first | with_reducible refine AW.seq ?_ | with_reducible refine AW.skip ?_ | with_reducible refine AW.block ?_ | ((with_reducible refine RG.id ?_); refine RG.nil ⟨?_, ?_⟩; · kernel_rfl) | ((with_reducible refine RG.id ?_); refine RG.nil ?_) | ((with_reducible refine AW.text ?_); refine RG.runG ty_ok 0 400 rfl ?_) | ((with_reducible refine AW.draws mixed_ok ?_); refine RG.runG ty_ok 0 400 rfl ?_)))
      refine AW.exit ?_
      refine Eq.mpr (if_pos rfl) ?_
      skip; (repeat (first | with_reducible refine AW.seq ?_ | with_reducible refine AW.skip ?_ | with_reducible refine AW.block ?_ | ((with_reducible refine RG.id ?_); refine RG.nil ⟨?_, ?_⟩; · kernel_rfl) | ((with_reducible refine RG.id ?_); refine RG.nil ?_) | ((with_reducible refine AW.text ?_); refine RG.runG ty_ok 0 400 rfl ?_) | ((with_reducible refine AW.draws mixed_ok ?_); refine RG.runG ty_ok 0 400 rfl ?_)))
      refine AW.ret (retQB rfl rfl ?_)
      rfl
end Go.Proofs.Ytpaldbejnbcokaa.Sm
end
section
namespace Go.Proofs.Ytpaldbejnbcokaa.Sm
open Go.RowKit
set_option linter.unusedVariables false
set_option maxRecDepth 100000
set_option maxHeartbeats 8000000
/-- A call that is played. -/
structure Sp where
  what : UInt64
  n : UInt64
  entry : En
def encSp (x : Sp) : List AV := [.i .i64 (i64of x.what), .i .i64 (i64of x.n)] ++ enC x.entry
/-- What the law keeps while it plays. -/
structure PS where
  es : List En
  off : Bool
  maybe : En
  b : Bk
def cap (n : Nat) : Nat := n * 5000000000
theorem cap_succ (n : Nat) : cap (n + 1) = cap n + 5000000000 := Nat.succ_mul n _
theorem cap_le {n : Nat} (h : n ≤ 40) : cap n ≤ 200000000000 := Nat.mul_le_mul_right 5000000000 h
structure PInv (n : Nat) (s : PS) : Prop where
  ok : ∀ e ∈ s.es, okEn e
  fu : -1 ≤ s.b.fuse ∧ s.b.fuse ≤ 9223372036854775807
  up : s.off = false → s.b.dead = false ∧ s.b.all = s.es.flatMap recE ∧ s.b.sure = s.b.all.length
  down : s.off = true → s.b.dead = true ∧ okEn s.maybe ∧ s.b.sure = (s.es.flatMap recE).length ∧ ∃ f, f ≤ (recE s.maybe).length ∧ s.b.all = s.es.flatMap recE ++ (recE s.maybe).take f
  len : s.b.all.length ≤ cap n
  cnt : s.es.length ≤ n
theorem PInv.mono {n : Nat} {s : PS} (h : PInv n s) : PInv (n + 1) s := ⟨h.ok, h.fu, h.up, h.down, by rw [cap_succ]; exact Nat.le_trans h.len (Nat.le_add_right _ _), Nat.le_succ_of_le h.cnt⟩
theorem PInv.add {n : Nat} {es : List En} {my e : En} {b : Bk} (h : PInv n ⟨es, false, my, b⟩) (hf : e.cfg.fit = true) (hfu : b.fuse < 0 ∨ ((recE e).length : Int) < b.fuse) : PInv (n + 1) ⟨es ++ [e], false, my, b.added (recE e)⟩ := by
  obtain ⟨h1, h2, h3⟩ := h.up rfl
  have hl := recE_bound hf
  have hfu' := h.fu
  have hlen := h.len
  have hcnt := h.cnt
  refine ⟨fun x hx => ?_, ?_, fun _ => ⟨h1, ?_, ?_⟩, fun h => (by cases h), ?_, ?_⟩
  · rcases List.mem_append.1 hx with hx | hx
    · exact h.ok x hx
    · obtain rfl := List.mem_singleton.1 hx
      exact okEn_of hf
  · show -1 ≤ (if b.fuse < 0 then -1 else b.fuse - (recE e).length - 1) ∧ (if b.fuse < 0 then -1 else b.fuse - (recE e).length - 1) ≤ 9223372036854775807
    simp only at hfu'
    split <;> omega
  · show b.all ++ recE e = _
    simp only at h2
    rw [h2, List.flatMap_append]
    simp
  · show b.all.length + (recE e).length = (b.all ++ recE e).length
    rw [List.length_append]
  · show (b.all ++ recE e).length ≤ _
    simp only at hlen
    rw [List.length_append, cap_succ]
    omega
  · simp only at hcnt
    simp only [List.length_append, List.length_singleton]
    omega
theorem PInv.cut {n : Nat} {es : List En} {my e : En} {b : Bk} (h : PInv n ⟨es, false, my, b⟩) (hf : e.cfg.fit = true) (hfu : 0 ≤ b.fuse ∧ b.fuse ≤ ((recE e).length : Int)) : PInv (n + 1) ⟨es, true, e, b.cut (recE e)⟩ := by
  obtain ⟨h1, h2, h3⟩ := h.up rfl
  have hl := recE_bound hf
  have hlen := h.len
  have hcnt := h.cnt
  simp only at h2 h3 hlen hcnt
  refine ⟨h.ok, ?_, fun h => (by cases h), fun _ => ⟨rfl, okEn_of hf, ?_, b.fuse.toNat, (by show b.fuse.toNat ≤ (recE e).length; omega), ?_⟩, ?_, ?_⟩
  · show (-1 : Int) ≤ 0 ∧ (0 : Int) ≤ 9223372036854775807
    decide
  · show b.sure = _
    rw [h3, h2]
  · show b.all ++ (recE e).take b.fuse.toNat = _
    rw [h2]
  · show (b.all ++ (recE e).take b.fuse.toNat).length ≤ _
    rw [List.length_append, List.length_take, cap_succ]
    omega
  · show es.length ≤ _
    omega
theorem PInv.fuse {n : Nat} {es : List En} {my : En} {b : Bk} (h : PInv n ⟨es, false, my, b⟩) {m : Int} (hm : m ≤ 9223372036854775807) : PInv (n + 1) ⟨es, false, my, { b with fuse := max m (-1) }⟩ := by
  have hlen := h.len
  have hcnt := h.cnt
  simp only at hlen hcnt
  refine ⟨h.ok, ?_, h.up, fun h => (by cases h), ?_, ?_⟩
  · show -1 ≤ max m (-1) ∧ max m (-1) ≤ 9223372036854775807
    omega
  · show b.all.length ≤ _
    rw [cap_succ]
    omega
  · show es.length ≤ _
    omega
/-- Behind a loss of power: the whole entries, and what is left of one. -/
theorem PInv.crash {n : Nat} {es : List En} {off : Bool} {my : En} {b : Bk} (h : PInv n ⟨es, off, my, b⟩) (keep : Int) :
    (∃ p, Part p ∧ (b.crash keep).all = es.flatMap recE ++ p) ∨ (off = true ∧ okEn my ∧ (b.crash keep).all = (es ++ [my]).flatMap recE ++ []) := by
  cases off with
  | false =>
    obtain ⟨h1, h2, h3⟩ := h.up rfl
    simp only at h2 h3
    refine .inl ⟨[], .inl (by simp), ?_⟩
    show b.all.take (b.sure + (max 0 (min keep ((b.all.length : Int) - b.sure))).toNat) = _
    rw [List.take_of_length_le (by omega), h2, List.append_nil]
  | true =>
    obtain ⟨h1, h2, h3, f, hf, h4⟩ := h.down rfl
    simp only at h2 h3 h4 hf
    have e : (b.crash keep).all = es.flatMap recE ++ (recE my).take ((b.keeps keep) - (es.flatMap recE).length) := by
      show b.all.take (b.keeps keep) = _
      have hk := keeps_le b keep (by rw [h3, h4, List.length_append]; omega)
      have hs : (es.flatMap recE).length ≤ b.keeps keep := by rw [Bk.keeps, h3]; omega
      rw [h4, List.take_append, List.take_of_length_le hs, List.take_take]
      congr 2
      rw [h4, List.length_append, List.length_take] at hk
      omega
    rw [e]
    rcases Nat.lt_or_ge ((b.keeps keep) - (es.flatMap recE).length) (recE my).length with hlt | hge
    · exact .inl ⟨_, part_of h2 hlt, rfl⟩
    · refine .inr ⟨rfl, h2, ?_⟩
      rw [List.take_of_length_le hge, List.flatMap_append]
      simp
theorem PInv.read {n : Nat} {es es' : List En} {off : Bool} {my : En} {b : Bk} (h : PInv n ⟨es, off, my, b⟩) (keep : Int) {p : List UInt8} (he : ∀ e ∈ es', okEn e) (hc : es'.length ≤ n + 1) (ha : (b.crash keep).all = es'.flatMap recE ++ p) (hs : b.sure ≤ b.all.length) : PInv (n + 1) ⟨es', false, my, (b.crash keep).read es'⟩ := by
  have hlen := h.len
  simp only at hlen
  have hl : (b.crash keep).all.length ≤ b.all.length := by
    show (b.all.take _).length ≤ _
    rw [List.length_take]
    omega
  refine ⟨he, (by show (-1 : Int) ≤ -1 ∧ (-1 : Int) ≤ 9223372036854775807; decide), fun _ => ⟨rfl, rfl, rfl⟩, fun h => (by cases h), ?_, hc⟩
  show (es'.flatMap recE).length ≤ _
  rw [ha, List.length_append] at hl
  rw [cap_succ]
  omega
theorem PInv.sure {n : Nat} {es : List En} {off : Bool} {my : En} {b : Bk} (h : PInv n ⟨es, off, my, b⟩) : b.sure ≤ b.all.length := by
  cases off with
  | false =>
    obtain ⟨h1, h2, h3⟩ := h.up rfl
    exact Nat.le_of_eq h3
  | true =>
    obtain ⟨h1, h2, h3, f, hf, h4⟩ := h.down rfl
    simp only at h3 h4
    rw [h3, h4, List.length_append]
    omega
theorem m_Entries_down (b : Bk) (hd : b.dead = true) (q : Nat → Option (Nat × Nat)) : MDoes Try.prog 31 [.own 0 0 0] (gl q [0] (bkB b)) (.tup [.raw (.slice none 0 0), .i .i64 9]) (gl q [0] (bkB b)) := by
  refine MDoes.of_body Try.func31 rfl (by kernel_rfl) rfl rfl ?_
  skip; (repeat (first | with_reducible refine AW.seq ?_ | with_reducible refine AW.skip ?_ | with_reducible refine AW.block ?_ | ((with_reducible refine RG.id ?_); refine RG.nil ⟨?_, ?_⟩; · kernel_rfl) | ((with_reducible refine RG.id ?_); refine RG.nil ?_) | ((with_reducible refine AW.text ?_); refine RG.runG ty_ok 0 400 rfl ?_) | ((with_reducible refine AW.draws mixed_ok ?_); refine RG.runG ty_ok 0 400 rfl ?_)))
  refine RG.ownN [(0, 0), (1, 1)] [(0, 0), (1, 1)] (fun q => m_live_down b hd q) rfl rfl rfl rfl rfl rfl rfl rfl rfl rfl ?_
  refine RG.runG ty_ok 0 400 rfl ?_; (repeat (first | with_reducible refine AW.seq ?_ | with_reducible refine AW.skip ?_ | with_reducible refine AW.block ?_ | ((with_reducible refine RG.id ?_); refine RG.nil ⟨?_, ?_⟩; · kernel_rfl) | ((with_reducible refine RG.id ?_); refine RG.nil ?_) | ((with_reducible refine AW.text ?_); refine RG.runG ty_ok 0 400 rfl ?_) | ((with_reducible refine AW.draws mixed_ok ?_); refine RG.runG ty_ok 0 400 rfl ?_))); refine AW.condT rfl ?_; skip; (repeat (first | with_reducible refine AW.seq ?_ | with_reducible refine AW.skip ?_ | with_reducible refine AW.block ?_ | ((with_reducible refine RG.id ?_); refine RG.nil ⟨?_, ?_⟩; · kernel_rfl) | ((with_reducible refine RG.id ?_); refine RG.nil ?_) | ((with_reducible refine AW.text ?_); refine RG.runG ty_ok 0 400 rfl ?_) | ((with_reducible refine AW.draws mixed_ok ?_); refine RG.runG ty_ok 0 400 rfl ?_)))
  exact AW.ret (retM2 rfl (Rm.is rfl rfl) (Rm.is rfl rfl) (bk_end rfl rfl rfl rfl rfl rfl rfl rfl rfl))
theorem row_all (A els : List (List AV)) : [AV.sl A, .sl ((els.drop 0).take els.length)] = [.sl A, .sl els] := by
  rw [List.drop_zero, List.take_length]
theorem i64of_le (x : UInt64) : i64of x ≤ 9223372036854775807 := by
  have := x.toNat_lt
  unfold i64of wrap64
  omega
def bpB (s : PS) : List (Nat × SB) := bkAt 100 101 s.b ++ [(22, ⟨0, some (.row 57 8 (s.es.map enC))⟩), (7, ⟨0, some (.box 57 (enC s.maybe))⟩)]
def bpT (l : List Sp) (s : PS) (k : Nat) : List (Nat × AV) := [(0, .sl (l.map encSp)), (3, .own 100 0 0), (4, .row 22 0 0 (s.es.map enC).length), (5, .b s.off), (6, .b s.off), (7, .own 7 0 0), (8, .i .i64 (k : Nat))]
theorem BookPlays_d (l : List Sp) : PDoes Try.prog 8 [.sl (l.map encSp)] (.b true) := by
  refine PDoes.of_bodyN Try.func8 rfl (by kernel_rfl) rfl rfl ?_
  skip; (repeat (first | with_reducible refine AW.seq ?_ | with_reducible refine AW.skip ?_ | with_reducible refine AW.block ?_ | ((with_reducible refine RG.id ?_); refine RG.nil ⟨?_, ?_⟩; · kernel_rfl) | ((with_reducible refine RG.id ?_); refine RG.nil ?_) | ((with_reducible refine AW.text ?_); refine RG.runG ty_ok 0 400 rfl ?_) | ((with_reducible refine AW.draws mixed_ok ?_); refine RG.runG ty_ok 0 400 rfl ?_)))
  refine RG.ownN [] [(2, 100), (1, 101)] (fun q => m_New q) rfl rfl rfl rfl rfl rfl rfl rfl rfl rfl ?_
  refine RG.runG ty_ok 0 400 rfl ?_; (repeat (first | with_reducible refine AW.seq ?_ | with_reducible refine AW.skip ?_ | with_reducible refine AW.block ?_ | ((with_reducible refine RG.id ?_); refine RG.nil ⟨?_, ?_⟩; · kernel_rfl) | ((with_reducible refine RG.id ?_); refine RG.nil ?_) | ((with_reducible refine AW.text ?_); refine RG.runG ty_ok 0 400 rfl ?_) | ((with_reducible refine AW.draws mixed_ok ?_); refine RG.runG ty_ok 0 400 rfl ?_)))
  refine RG.callS rfl rfl rfl rfl rfl d_awake22 rfl rfl ?_
  refine RG.runG ty_ok 0 400 rfl ?_; (repeat (first | with_reducible refine AW.seq ?_ | with_reducible refine AW.skip ?_ | with_reducible refine AW.block ?_ | ((with_reducible refine RG.id ?_); refine RG.nil ⟨?_, ?_⟩; · kernel_rfl) | ((with_reducible refine RG.id ?_); refine RG.nil ?_) | ((with_reducible refine AW.text ?_); refine RG.runG ty_ok 0 400 rfl ?_) | ((with_reducible refine AW.draws mixed_ok ?_); refine RG.runG ty_ok 0 400 rfl ?_))); refine AW.condF rfl ?_; skip; (repeat (first | with_reducible refine AW.seq ?_ | with_reducible refine AW.skip ?_ | with_reducible refine AW.block ?_ | ((with_reducible refine RG.id ?_); refine RG.nil ⟨?_, ?_⟩; · kernel_rfl) | ((with_reducible refine RG.id ?_); refine RG.nil ?_) | ((with_reducible refine AW.text ?_); refine RG.runG ty_ok 0 400 rfl ?_) | ((with_reducible refine AW.draws mixed_ok ?_); refine RG.runG ty_ok 0 400 rfl ?_)))
  refine RG.opS rfl (op_build0 (id := 22) rfl (tab_ok ty_ok rfl) rfl (tab_ok ty_ok rfl)) rfl ?_
  refine RG.runG ty_ok 0 400 rfl ?_; (repeat (first | with_reducible refine AW.seq ?_ | with_reducible refine AW.skip ?_ | with_reducible refine AW.block ?_ | ((with_reducible refine RG.id ?_); refine RG.nil ⟨?_, ?_⟩; · kernel_rfl) | ((with_reducible refine RG.id ?_); refine RG.nil ?_) | ((with_reducible refine AW.text ?_); refine RG.runG ty_ok 0 400 rfl ?_) | ((with_reducible refine AW.draws mixed_ok ?_); refine RG.runG ty_ok 0 400 rfl ?_)))
  have zi : ∀ {σ σ' : Sto}, Rn σ σ' (.i .i64 0) (.i .i64 (i64of 0)) := .is (congrArg (AV.i .i64) line_i.1.symm) rfl
  have h0 : PInv 0 ⟨[], false, zeroE, b0⟩ := ⟨fun e he => (by cases he), by decide, fun _ => ⟨rfl, rfl, rfl⟩, fun h => (by cases h), Nat.le_refl _, Nat.le_refl _⟩
  refine AW.loopL (ι := Nat × PS) (fun i => bpT l i.2 i.1) (fun i => bpB i.2) (fun i => i.1 ≤ l.length ∧ i.1 ≤ 40 ∧ PInv i.1 i.2) (fun i => 40 - i.1) (0, ⟨[], false, zeroE, b0⟩) ⟨Nat.zero_le _, Nat.zero_le _, h0⟩ ⟨Rn.is rfl rfl, Rn.ownIs rfl rfl rfl, Rn.rowIs rfl rfl rfl, Rn.is rfl rfl, Rn.is rfl rfl, Rn.ownIs rfl rfl rfl, Rn.is rfl rfl, trivial⟩ ⟨.boxL rfl ⟨Rn.rowIs rfl rfl rfl, Rn.is rfl rfl, Rn.is rfl rfl, Rn.is rfl rfl, trivial⟩ rfl, .row rfl rfl, .row rfl rfl, .boxL rfl ⟨zi, zi, zi, .nil, zi, .nil, .nil, .nil, trivial⟩ rfl, trivial⟩ fun ⟨k, s⟩ ⟨hk, hk40, hI⟩ => ?_
  obtain ⟨es, off, my, b⟩ := s
  simp only at hk hk40 hI
  skip; (repeat (first | with_reducible refine AW.seq ?_ | with_reducible refine AW.skip ?_ | with_reducible refine AW.block ?_ | ((with_reducible refine RG.id ?_); refine RG.nil ⟨?_, ?_⟩; · kernel_rfl) | ((with_reducible refine RG.id ?_); refine RG.nil ?_)))
  refine AW.cutT (ι := Unit) (fun _ => bpT l ⟨es, off, my, b⟩ k ++ [(30, .b (decide (k < l.length ∧ k < 40)))]) (fun _ => bpB ⟨es, off, my, b⟩) (fun _ => True) ?_ fun _ _ => ?_
  · refine AW.text ?_
    by_cases h1 : k < l.length
    · refine RG.runO ty_ok 0 [(26, .b true), (29, .b (decide (k < 40)))] 400 rfl ⟨congrArg AV.b (show decide ((k : Int) < 40) = _ by simp only [decide_eq_decide]; omega), congrArg AV.b (decide_eq_true (show (k : Int) < ((l.map encSp).length : Nat) by rw [List.length_map]; omega)), trivial⟩ ?_
      skip; (repeat (first | with_reducible refine AW.seq ?_ | with_reducible refine AW.skip ?_ | with_reducible refine AW.block ?_ | ((with_reducible refine RG.id ?_); refine RG.nil ⟨?_, ?_⟩; · kernel_rfl) | ((with_reducible refine RG.id ?_); refine RG.nil ?_)))
      exact ⟨(), trivial, ⟨Rn.is rfl rfl, Rn.ownIs rfl rfl rfl, Rn.rowIs rfl rfl rfl, Rn.is rfl rfl, Rn.is rfl rfl, Rn.ownIs rfl rfl rfl, Rn.is rfl rfl, .is (congrArg AV.b (show decide (k < 40) = decide (k < l.length ∧ k < 40) by simp [h1])) rfl, trivial⟩, .boxL rfl ⟨Rn.rowIs rfl rfl rfl, Rn.is rfl rfl, Rn.is rfl rfl, Rn.is rfl rfl, trivial⟩ rfl, .row rfl rfl, .row rfl rfl, .same rfl rfl rfl, trivial⟩
    · refine RG.runO ty_ok 0 [(26, .b false)] 400 rfl ⟨congrArg AV.b (decide_eq_false (show ¬ (k : Int) < ((l.map encSp).length : Nat) by rw [List.length_map]; omega)), trivial⟩ ?_
      skip; (repeat (first | with_reducible refine AW.seq ?_ | with_reducible refine AW.skip ?_ | with_reducible refine AW.block ?_ | ((with_reducible refine RG.id ?_); refine RG.nil ⟨?_, ?_⟩; · kernel_rfl) | ((with_reducible refine RG.id ?_); refine RG.nil ?_)))
      exact ⟨(), trivial, ⟨Rn.is rfl rfl, Rn.ownIs rfl rfl rfl, Rn.rowIs rfl rfl rfl, Rn.is rfl rfl, Rn.is rfl rfl, Rn.ownIs rfl rfl rfl, Rn.is rfl rfl, .is (congrArg AV.b (show false = decide (k < l.length ∧ k < 40) by simp [h1])) rfl, trivial⟩, .boxL rfl ⟨Rn.rowIs rfl rfl rfl, Rn.is rfl rfl, Rn.is rfl rfl, Rn.is rfl rfl, trivial⟩ rfl, .row rfl rfl, .row rfl rfl, .same rfl rfl rfl, trivial⟩
  refine AW.cond rfl (fun hlt => ?_) (fun hlt => ?_)
  case refine_2 =>
    skip; (repeat (first | with_reducible refine AW.seq ?_ | with_reducible refine AW.skip ?_ | with_reducible refine AW.block ?_ | ((with_reducible refine RG.id ?_); refine RG.nil ⟨?_, ?_⟩; · kernel_rfl) | ((with_reducible refine RG.id ?_); refine RG.nil ?_) | ((with_reducible refine AW.text ?_); refine RG.runG ty_ok 0 400 rfl ?_) | ((with_reducible refine AW.draws mixed_ok ?_); refine RG.runG ty_ok 0 400 rfl ?_)))
    refine AW.exit ?_
    refine Eq.mpr (if_pos rfl) ?_
    skip; (repeat (first | with_reducible refine AW.seq ?_ | with_reducible refine AW.skip ?_ | with_reducible refine AW.block ?_ | ((with_reducible refine RG.id ?_); refine RG.nil ⟨?_, ?_⟩; · kernel_rfl) | ((with_reducible refine RG.id ?_); refine RG.nil ?_) | ((with_reducible refine AW.text ?_); refine RG.runG ty_ok 0 400 rfl ?_) | ((with_reducible refine AW.draws mixed_ok ?_); refine RG.runG ty_ok 0 400 rfl ?_)))
    refine AW.ret (retQB rfl rfl ?_)
    rfl
  have hlt : k < l.length ∧ k < 40 := of_decide_eq_true hlt
  have hnx : AV.i .i64 (IntKind.i64.wrap ((k : Int) + 1)) = .i .i64 ((k + 1 : Nat) : Int) := i64_next hlt.2 (by omega)
  have hm : 40 - (k + 1) < 40 - k := by omega
  have hcap := cap_le hk40
  obtain ⟨x, hx⟩ : ∃ x, l[k]? = some x := ⟨_, List.getElem?_eq_getElem hlt.1⟩
  skip; (repeat (first | with_reducible refine AW.seq ?_ | with_reducible refine AW.skip ?_ | with_reducible refine AW.block ?_ | ((with_reducible refine RG.id ?_); refine RG.nil ⟨?_, ?_⟩; · kernel_rfl) | ((with_reducible refine RG.id ?_); refine RG.nil ?_) | ((with_reducible refine AW.text ?_); refine RG.runG ty_ok 0 400 rfl ?_) | ((with_reducible refine AW.draws mixed_ok ?_); refine RG.runG ty_ok 0 400 rfl ?_)))
  refine RG.opS rfl (op_index rfl (tab_ok ty_ok rfl) rfl (tab_ok ty_ok rfl) rfl rfl (show (l.map encSp)[k]? = some (encSp x) by rw [List.getElem?_map, hx]; rfl) rfl) rfl ?_
  refine RG.runG ty_ok 0 400 rfl ?_; (repeat (first | with_reducible refine AW.seq ?_ | with_reducible refine AW.skip ?_ | with_reducible refine AW.block ?_ | ((with_reducible refine RG.id ?_); refine RG.nil ⟨?_, ?_⟩; · kernel_rfl) | ((with_reducible refine RG.id ?_); refine RG.nil ?_) | ((with_reducible refine AW.text ?_); refine RG.runG ty_ok 0 400 rfl ?_) | ((with_reducible refine AW.draws mixed_ok ?_); refine RG.runG ty_ok 0 400 rfl ?_)))
  refine AW.cond rfl (fun h0 => ?_) (fun h0 => ?_)
  · cases off
    · have hu := hI.up rfl
      have hcnt := hI.cnt
      have hlen := hI.len
      simp only at hu hcnt hlen
      cases hf : x.entry.cfg.fit
      · skip; (repeat (first | with_reducible refine AW.seq ?_ | with_reducible refine AW.skip ?_ | with_reducible refine AW.block ?_ | ((with_reducible refine RG.id ?_); refine RG.nil ⟨?_, ?_⟩; · kernel_rfl) | ((with_reducible refine RG.id ?_); refine RG.nil ?_) | ((with_reducible refine AW.text ?_); refine RG.runG ty_ok 0 400 rfl ?_) | ((with_reducible refine AW.draws mixed_ok ?_); refine RG.runG ty_ok 0 400 rfl ?_)))
        refine RG.ownN [(100, 0), (101, 1)] [(0, 100), (1, 101)] (fun q => m_Add_long b x.entry hu.1 hf q) rfl rfl rfl rfl rfl rfl rfl rfl rfl rfl ?_
        refine RG.runG ty_ok 0 400 rfl ?_; (repeat (first | with_reducible refine AW.seq ?_ | with_reducible refine AW.skip ?_ | with_reducible refine AW.block ?_ | ((with_reducible refine RG.id ?_); refine RG.nil ⟨?_, ?_⟩; · kernel_rfl) | ((with_reducible refine RG.id ?_); refine RG.nil ?_) | ((with_reducible refine AW.text ?_); refine RG.runG ty_ok 0 400 rfl ?_) | ((with_reducible refine AW.draws mixed_ok ?_); refine RG.runG ty_ok 0 400 rfl ?_))); refine AW.condF rfl ?_; skip; (repeat (first | with_reducible refine AW.seq ?_ | with_reducible refine AW.skip ?_ | with_reducible refine AW.block ?_ | ((with_reducible refine RG.id ?_); refine RG.nil ⟨?_, ?_⟩; · kernel_rfl) | ((with_reducible refine RG.id ?_); refine RG.nil ?_) | ((with_reducible refine AW.text ?_); refine RG.runG ty_ok 0 400 rfl ?_) | ((with_reducible refine AW.draws mixed_ok ?_); refine RG.runG ty_ok 0 400 rfl ?_)))
        refine RG.callS rfl rfl rfl rfl rfl (by have := d_long x.entry; rw [hf] at this; exact this) rfl rfl ?_
        refine RG.runG ty_ok 0 400 rfl ?_; (repeat (first | with_reducible refine AW.seq ?_ | with_reducible refine AW.skip ?_ | with_reducible refine AW.block ?_ | ((with_reducible refine RG.id ?_); refine RG.nil ⟨?_, ?_⟩; · kernel_rfl) | ((with_reducible refine RG.id ?_); refine RG.nil ?_) | ((with_reducible refine AW.text ?_); refine RG.runG ty_ok 0 400 rfl ?_) | ((with_reducible refine AW.draws mixed_ok ?_); refine RG.runG ty_ok 0 400 rfl ?_))); refine AW.condT rfl ?_; skip; (repeat (first | with_reducible refine AW.seq ?_ | with_reducible refine AW.skip ?_ | with_reducible refine AW.block ?_ | ((with_reducible refine RG.id ?_); refine RG.nil ⟨?_, ?_⟩; · kernel_rfl) | ((with_reducible refine RG.id ?_); refine RG.nil ?_) | ((with_reducible refine AW.text ?_); refine RG.runG ty_ok 0 400 rfl ?_) | ((with_reducible refine AW.draws mixed_ok ?_); refine RG.runG ty_ok 0 400 rfl ?_))); refine AW.condF rfl ?_; skip; (repeat (first | with_reducible refine AW.seq ?_ | with_reducible refine AW.skip ?_ | with_reducible refine AW.block ?_ | ((with_reducible refine RG.id ?_); refine RG.nil ⟨?_, ?_⟩; · kernel_rfl) | ((with_reducible refine RG.id ?_); refine RG.nil ?_) | ((with_reducible refine AW.text ?_); refine RG.runG ty_ok 0 400 rfl ?_) | ((with_reducible refine AW.draws mixed_ok ?_); refine RG.runG ty_ok 0 400 rfl ?_)))
        exact ⟨(k + 1, ⟨es, false, my, b⟩), ⟨⟨hlt.1, hlt.2, hI.mono⟩, hm⟩, ⟨Rn.is rfl rfl, Rn.ownIs rfl rfl rfl, Rn.rowIs rfl rfl rfl, Rn.is rfl rfl, Rn.is rfl rfl, Rn.ownIs rfl rfl rfl, .is hnx rfl, trivial⟩, .boxL rfl ⟨Rn.rowIs rfl rfl rfl, Rn.is rfl rfl, Rn.is rfl rfl, Rn.is rfl rfl, trivial⟩ rfl, .row rfl rfl, .row rfl rfl, .same rfl rfl rfl, trivial⟩
      by_cases hfu : b.fuse < 0 ∨ ((recE x.entry).length : Int) < b.fuse
      · skip; (repeat (first | with_reducible refine AW.seq ?_ | with_reducible refine AW.skip ?_ | with_reducible refine AW.block ?_ | ((with_reducible refine RG.id ?_); refine RG.nil ⟨?_, ?_⟩; · kernel_rfl) | ((with_reducible refine RG.id ?_); refine RG.nil ?_) | ((with_reducible refine AW.text ?_); refine RG.runG ty_ok 0 400 rfl ?_) | ((with_reducible refine AW.draws mixed_ok ?_); refine RG.runG ty_ok 0 400 rfl ?_)))
        refine RG.ownN [(100, 0), (101, 1)] [(0, 100), (1, 101)] (fun q => m_Add_ok b x.entry hu.1 hf (okEn_of hf).2 (by omega) hI.fu hfu q) rfl rfl rfl rfl rfl rfl rfl rfl rfl rfl ?_
        refine RG.runG ty_ok 0 400 rfl ?_; (repeat (first | with_reducible refine AW.seq ?_ | with_reducible refine AW.skip ?_ | with_reducible refine AW.block ?_ | ((with_reducible refine RG.id ?_); refine RG.nil ⟨?_, ?_⟩; · kernel_rfl) | ((with_reducible refine RG.id ?_); refine RG.nil ?_) | ((with_reducible refine AW.text ?_); refine RG.runG ty_ok 0 400 rfl ?_) | ((with_reducible refine AW.draws mixed_ok ?_); refine RG.runG ty_ok 0 400 rfl ?_))); refine AW.condF rfl ?_; skip; (repeat (first | with_reducible refine AW.seq ?_ | with_reducible refine AW.skip ?_ | with_reducible refine AW.block ?_ | ((with_reducible refine RG.id ?_); refine RG.nil ⟨?_, ?_⟩; · kernel_rfl) | ((with_reducible refine RG.id ?_); refine RG.nil ?_) | ((with_reducible refine AW.text ?_); refine RG.runG ty_ok 0 400 rfl ?_) | ((with_reducible refine AW.draws mixed_ok ?_); refine RG.runG ty_ok 0 400 rfl ?_)))
        refine RG.callS rfl rfl rfl rfl rfl (by have := d_long x.entry; rw [hf] at this; exact this) rfl rfl ?_
        refine RG.runG ty_ok 0 400 rfl ?_; (repeat (first | with_reducible refine AW.seq ?_ | with_reducible refine AW.skip ?_ | with_reducible refine AW.block ?_ | ((with_reducible refine RG.id ?_); refine RG.nil ⟨?_, ?_⟩; · kernel_rfl) | ((with_reducible refine RG.id ?_); refine RG.nil ?_) | ((with_reducible refine AW.text ?_); refine RG.runG ty_ok 0 400 rfl ?_) | ((with_reducible refine AW.draws mixed_ok ?_); refine RG.runG ty_ok 0 400 rfl ?_))); refine AW.condF rfl ?_; skip; (repeat (first | with_reducible refine AW.seq ?_ | with_reducible refine AW.skip ?_ | with_reducible refine AW.block ?_ | ((with_reducible refine RG.id ?_); refine RG.nil ⟨?_, ?_⟩; · kernel_rfl) | ((with_reducible refine RG.id ?_); refine RG.nil ?_) | ((with_reducible refine AW.text ?_); refine RG.runG ty_ok 0 400 rfl ?_) | ((with_reducible refine AW.draws mixed_ok ?_); refine RG.runG ty_ok 0 400 rfl ?_))); refine AW.condT rfl ?_; skip; (repeat (first | with_reducible refine AW.seq ?_ | with_reducible refine AW.skip ?_ | with_reducible refine AW.block ?_ | ((with_reducible refine RG.id ?_); refine RG.nil ⟨?_, ?_⟩; · kernel_rfl) | ((with_reducible refine RG.id ?_); refine RG.nil ?_) | ((with_reducible refine AW.text ?_); refine RG.runG ty_ok 0 400 rfl ?_) | ((with_reducible refine AW.draws mixed_ok ?_); refine RG.runG ty_ok 0 400 rfl ?_)))
        refine RG.opS rfl (op_appendR (id := 22) (id2 := 61) (els := es.map enC) (els2 := [enC x.entry]) (r := (es ++ [x.entry]).map enC) rfl rfl rfl rfl (tab_ok ty_ok rfl) rfl (tab_ok ty_ok rfl) rfl (.inl ⟨_, rfl, rfl⟩) rfl rfl ?_ ?_ ?_ rfl) rfl ?_
        · rw [List.length_map]
          show (es.length + 1) * 128 ≤ _
          omega
        · rw [List.length_map]
          show es.length + 1 ≤ _
          omega
        · rw [List.map_append]
          rfl
        refine RG.runG ty_ok 0 400 rfl ?_; (repeat (first | with_reducible refine AW.seq ?_ | with_reducible refine AW.skip ?_ | with_reducible refine AW.block ?_ | ((with_reducible refine RG.id ?_); refine RG.nil ⟨?_, ?_⟩; · kernel_rfl) | ((with_reducible refine RG.id ?_); refine RG.nil ?_) | ((with_reducible refine AW.text ?_); refine RG.runG ty_ok 0 400 rfl ?_) | ((with_reducible refine AW.draws mixed_ok ?_); refine RG.runG ty_ok 0 400 rfl ?_)))
        exact ⟨(k + 1, ⟨es ++ [x.entry], false, my, b.added (recE x.entry)⟩), ⟨⟨hlt.1, hlt.2, hI.add hf hfu⟩, hm⟩, ⟨Rn.is rfl rfl, Rn.ownIs rfl rfl rfl, Rn.rowIs rfl rfl rfl, Rn.is rfl rfl, Rn.is rfl rfl, Rn.ownIs rfl rfl rfl, .is hnx rfl, trivial⟩, .boxL rfl ⟨Rn.rowIs rfl rfl rfl, Rn.is rfl rfl, Rn.is rfl rfl, Rn.is rfl rfl, trivial⟩ rfl, .row rfl rfl, .row rfl rfl, .same rfl rfl rfl, trivial⟩
      · have hfu : 0 ≤ b.fuse ∧ b.fuse ≤ ((recE x.entry).length : Int) := by omega
        skip; (repeat (first | with_reducible refine AW.seq ?_ | with_reducible refine AW.skip ?_ | with_reducible refine AW.block ?_ | ((with_reducible refine RG.id ?_); refine RG.nil ⟨?_, ?_⟩; · kernel_rfl) | ((with_reducible refine RG.id ?_); refine RG.nil ?_) | ((with_reducible refine AW.text ?_); refine RG.runG ty_ok 0 400 rfl ?_) | ((with_reducible refine AW.draws mixed_ok ?_); refine RG.runG ty_ok 0 400 rfl ?_)))
        refine RG.ownN [(100, 0), (101, 1)] [(0, 100), (1, 101)] (fun q => m_Add_cut b x.entry hu.1 hf (okEn_of hf).2 (by omega) hI.fu hfu q) rfl rfl rfl rfl rfl rfl rfl rfl rfl rfl ?_
        refine RG.runG ty_ok 0 400 rfl ?_; (repeat (first | with_reducible refine AW.seq ?_ | with_reducible refine AW.skip ?_ | with_reducible refine AW.block ?_ | ((with_reducible refine RG.id ?_); refine RG.nil ⟨?_, ?_⟩; · kernel_rfl) | ((with_reducible refine RG.id ?_); refine RG.nil ?_) | ((with_reducible refine AW.text ?_); refine RG.runG ty_ok 0 400 rfl ?_) | ((with_reducible refine AW.draws mixed_ok ?_); refine RG.runG ty_ok 0 400 rfl ?_))); refine AW.condF rfl ?_; skip; (repeat (first | with_reducible refine AW.seq ?_ | with_reducible refine AW.skip ?_ | with_reducible refine AW.block ?_ | ((with_reducible refine RG.id ?_); refine RG.nil ⟨?_, ?_⟩; · kernel_rfl) | ((with_reducible refine RG.id ?_); refine RG.nil ?_) | ((with_reducible refine AW.text ?_); refine RG.runG ty_ok 0 400 rfl ?_) | ((with_reducible refine AW.draws mixed_ok ?_); refine RG.runG ty_ok 0 400 rfl ?_)))
        refine RG.callS rfl rfl rfl rfl rfl (by have := d_long x.entry; rw [hf] at this; exact this) rfl rfl ?_
        refine RG.runG ty_ok 0 400 rfl ?_; (repeat (first | with_reducible refine AW.seq ?_ | with_reducible refine AW.skip ?_ | with_reducible refine AW.block ?_ | ((with_reducible refine RG.id ?_); refine RG.nil ⟨?_, ?_⟩; · kernel_rfl) | ((with_reducible refine RG.id ?_); refine RG.nil ?_) | ((with_reducible refine AW.text ?_); refine RG.runG ty_ok 0 400 rfl ?_) | ((with_reducible refine AW.draws mixed_ok ?_); refine RG.runG ty_ok 0 400 rfl ?_))); refine AW.condF rfl ?_; skip; (repeat (first | with_reducible refine AW.seq ?_ | with_reducible refine AW.skip ?_ | with_reducible refine AW.block ?_ | ((with_reducible refine RG.id ?_); refine RG.nil ⟨?_, ?_⟩; · kernel_rfl) | ((with_reducible refine RG.id ?_); refine RG.nil ?_) | ((with_reducible refine AW.text ?_); refine RG.runG ty_ok 0 400 rfl ?_) | ((with_reducible refine AW.draws mixed_ok ?_); refine RG.runG ty_ok 0 400 rfl ?_))); refine AW.condF rfl ?_; skip; (repeat (first | with_reducible refine AW.seq ?_ | with_reducible refine AW.skip ?_ | with_reducible refine AW.block ?_ | ((with_reducible refine RG.id ?_); refine RG.nil ⟨?_, ?_⟩; · kernel_rfl) | ((with_reducible refine RG.id ?_); refine RG.nil ?_) | ((with_reducible refine AW.text ?_); refine RG.runG ty_ok 0 400 rfl ?_) | ((with_reducible refine AW.draws mixed_ok ?_); refine RG.runG ty_ok 0 400 rfl ?_))); refine AW.condT rfl ?_; skip; (repeat (first | with_reducible refine AW.seq ?_ | with_reducible refine AW.skip ?_ | with_reducible refine AW.block ?_ | ((with_reducible refine RG.id ?_); refine RG.nil ⟨?_, ?_⟩; · kernel_rfl) | ((with_reducible refine RG.id ?_); refine RG.nil ?_) | ((with_reducible refine AW.text ?_); refine RG.runG ty_ok 0 400 rfl ?_) | ((with_reducible refine AW.draws mixed_ok ?_); refine RG.runG ty_ok 0 400 rfl ?_)))
        exact ⟨(k + 1, ⟨es, true, x.entry, b.cut (recE x.entry)⟩), ⟨⟨hlt.1, hlt.2, hI.cut hf hfu⟩, hm⟩, ⟨Rn.is rfl rfl, Rn.ownIs rfl rfl rfl, Rn.rowIs rfl rfl rfl, Rn.is rfl rfl, Rn.is rfl rfl, Rn.ownIs rfl rfl rfl, .is hnx rfl, trivial⟩, .boxL rfl ⟨Rn.rowIs rfl rfl rfl, Rn.is rfl rfl, Rn.is rfl rfl, Rn.is rfl rfl, trivial⟩ rfl, .row rfl rfl, .row rfl rfl, .same rfl rfl rfl, trivial⟩
    · skip
      skip; (repeat (first | with_reducible refine AW.seq ?_ | with_reducible refine AW.skip ?_ | with_reducible refine AW.block ?_ | ((with_reducible refine RG.id ?_); refine RG.nil ⟨?_, ?_⟩; · kernel_rfl) | ((with_reducible refine RG.id ?_); refine RG.nil ?_) | ((with_reducible refine AW.text ?_); refine RG.runG ty_ok 0 400 rfl ?_) | ((with_reducible refine AW.draws mixed_ok ?_); refine RG.runG ty_ok 0 400 rfl ?_)))
      refine RG.ownN [(100, 0), (101, 1)] [(0, 100), (1, 101)] (fun q => m_Add_down b x.entry (hI.down rfl).1 q) rfl rfl rfl rfl rfl rfl rfl rfl rfl rfl ?_
      refine RG.runG ty_ok 0 400 rfl ?_; (repeat (first | with_reducible refine AW.seq ?_ | with_reducible refine AW.skip ?_ | with_reducible refine AW.block ?_ | ((with_reducible refine RG.id ?_); refine RG.nil ⟨?_, ?_⟩; · kernel_rfl) | ((with_reducible refine RG.id ?_); refine RG.nil ?_) | ((with_reducible refine AW.text ?_); refine RG.runG ty_ok 0 400 rfl ?_) | ((with_reducible refine AW.draws mixed_ok ?_); refine RG.runG ty_ok 0 400 rfl ?_))); refine AW.condT rfl ?_; skip; (repeat (first | with_reducible refine AW.seq ?_ | with_reducible refine AW.skip ?_ | with_reducible refine AW.block ?_ | ((with_reducible refine RG.id ?_); refine RG.nil ⟨?_, ?_⟩; · kernel_rfl) | ((with_reducible refine RG.id ?_); refine RG.nil ?_) | ((with_reducible refine AW.text ?_); refine RG.runG ty_ok 0 400 rfl ?_) | ((with_reducible refine AW.draws mixed_ok ?_); refine RG.runG ty_ok 0 400 rfl ?_))); refine AW.condF rfl ?_; skip; (repeat (first | with_reducible refine AW.seq ?_ | with_reducible refine AW.skip ?_ | with_reducible refine AW.block ?_ | ((with_reducible refine RG.id ?_); refine RG.nil ⟨?_, ?_⟩; · kernel_rfl) | ((with_reducible refine RG.id ?_); refine RG.nil ?_) | ((with_reducible refine AW.text ?_); refine RG.runG ty_ok 0 400 rfl ?_) | ((with_reducible refine AW.draws mixed_ok ?_); refine RG.runG ty_ok 0 400 rfl ?_)))
      exact ⟨(k + 1, ⟨es, true, my, b⟩), ⟨⟨hlt.1, hlt.2, hI.mono⟩, hm⟩, ⟨Rn.is rfl rfl, Rn.ownIs rfl rfl rfl, Rn.rowIs rfl rfl rfl, Rn.is rfl rfl, Rn.is rfl rfl, Rn.ownIs rfl rfl rfl, .is hnx rfl, trivial⟩, .boxL rfl ⟨Rn.rowIs rfl rfl rfl, Rn.is rfl rfl, Rn.is rfl rfl, Rn.is rfl rfl, trivial⟩ rfl, .row rfl rfl, .row rfl rfl, .same rfl rfl rfl, trivial⟩
  skip; (repeat (first | with_reducible refine AW.seq ?_ | with_reducible refine AW.skip ?_ | with_reducible refine AW.block ?_ | ((with_reducible refine RG.id ?_); refine RG.nil ⟨?_, ?_⟩; · kernel_rfl) | ((with_reducible refine RG.id ?_); refine RG.nil ?_) | ((with_reducible refine AW.text ?_); refine RG.runG ty_ok 0 400 rfl ?_) | ((with_reducible refine AW.draws mixed_ok ?_); refine RG.runG ty_ok 0 400 rfl ?_)))
  refine AW.cond rfl (fun h1 => ?_) (fun h1 => ?_)
  · cases off
    · skip; (repeat (first | with_reducible refine AW.seq ?_ | with_reducible refine AW.skip ?_ | with_reducible refine AW.block ?_ | ((with_reducible refine RG.id ?_); refine RG.nil ⟨?_, ?_⟩; · kernel_rfl) | ((with_reducible refine RG.id ?_); refine RG.nil ?_) | ((with_reducible refine AW.text ?_); refine RG.runG ty_ok 0 400 rfl ?_) | ((with_reducible refine AW.draws mixed_ok ?_); refine RG.runG ty_ok 0 400 rfl ?_))); refine AW.condT rfl ?_; skip; (repeat (first | with_reducible refine AW.seq ?_ | with_reducible refine AW.skip ?_ | with_reducible refine AW.block ?_ | ((with_reducible refine RG.id ?_); refine RG.nil ⟨?_, ?_⟩; · kernel_rfl) | ((with_reducible refine RG.id ?_); refine RG.nil ?_) | ((with_reducible refine AW.text ?_); refine RG.runG ty_ok 0 400 rfl ?_) | ((with_reducible refine AW.draws mixed_ok ?_); refine RG.runG ty_ok 0 400 rfl ?_)))
      refine RG.ownN [(100, 0), (101, 1)] [(0, 100), (1, 101)] (fun q => m_Fuse b (i64of x.n) q) rfl rfl rfl rfl rfl rfl rfl rfl rfl rfl ?_
      refine RG.runG ty_ok 0 400 rfl ?_; (repeat (first | with_reducible refine AW.seq ?_ | with_reducible refine AW.skip ?_ | with_reducible refine AW.block ?_ | ((with_reducible refine RG.id ?_); refine RG.nil ⟨?_, ?_⟩; · kernel_rfl) | ((with_reducible refine RG.id ?_); refine RG.nil ?_) | ((with_reducible refine AW.text ?_); refine RG.runG ty_ok 0 400 rfl ?_) | ((with_reducible refine AW.draws mixed_ok ?_); refine RG.runG ty_ok 0 400 rfl ?_)))
      exact ⟨(k + 1, ⟨es, false, my, { b with fuse := max (i64of x.n) (-1) }⟩), ⟨⟨hlt.1, hlt.2, hI.fuse (i64of_le x.n)⟩, hm⟩, ⟨Rn.is rfl rfl, Rn.ownIs rfl rfl rfl, Rn.rowIs rfl rfl rfl, Rn.is rfl rfl, Rn.is rfl rfl, Rn.ownIs rfl rfl rfl, .is hnx rfl, trivial⟩, .boxL rfl ⟨Rn.rowIs rfl rfl rfl, Rn.is rfl rfl, Rn.is rfl rfl, Rn.is rfl rfl, trivial⟩ rfl, .row rfl rfl, .row rfl rfl, .same rfl rfl rfl, trivial⟩
    · skip; (repeat (first | with_reducible refine AW.seq ?_ | with_reducible refine AW.skip ?_ | with_reducible refine AW.block ?_ | ((with_reducible refine RG.id ?_); refine RG.nil ⟨?_, ?_⟩; · kernel_rfl) | ((with_reducible refine RG.id ?_); refine RG.nil ?_) | ((with_reducible refine AW.text ?_); refine RG.runG ty_ok 0 400 rfl ?_) | ((with_reducible refine AW.draws mixed_ok ?_); refine RG.runG ty_ok 0 400 rfl ?_))); refine AW.condF rfl ?_; skip; (repeat (first | with_reducible refine AW.seq ?_ | with_reducible refine AW.skip ?_ | with_reducible refine AW.block ?_ | ((with_reducible refine RG.id ?_); refine RG.nil ⟨?_, ?_⟩; · kernel_rfl) | ((with_reducible refine RG.id ?_); refine RG.nil ?_) | ((with_reducible refine AW.text ?_); refine RG.runG ty_ok 0 400 rfl ?_) | ((with_reducible refine AW.draws mixed_ok ?_); refine RG.runG ty_ok 0 400 rfl ?_)))
      exact ⟨(k + 1, ⟨es, true, my, b⟩), ⟨⟨hlt.1, hlt.2, hI.mono⟩, hm⟩, ⟨Rn.is rfl rfl, Rn.ownIs rfl rfl rfl, Rn.rowIs rfl rfl rfl, Rn.is rfl rfl, Rn.is rfl rfl, Rn.ownIs rfl rfl rfl, .is hnx rfl, trivial⟩, .boxL rfl ⟨Rn.rowIs rfl rfl rfl, Rn.is rfl rfl, Rn.is rfl rfl, Rn.is rfl rfl, trivial⟩ rfl, .row rfl rfl, .row rfl rfl, .same rfl rfl rfl, trivial⟩
  skip; (repeat (first | with_reducible refine AW.seq ?_ | with_reducible refine AW.skip ?_ | with_reducible refine AW.block ?_ | ((with_reducible refine RG.id ?_); refine RG.nil ⟨?_, ?_⟩; · kernel_rfl) | ((with_reducible refine RG.id ?_); refine RG.nil ?_) | ((with_reducible refine AW.text ?_); refine RG.runG ty_ok 0 400 rfl ?_) | ((with_reducible refine AW.draws mixed_ok ?_); refine RG.runG ty_ok 0 400 rfl ?_)))
  refine AW.cond rfl (fun h2 => ?_) (fun h2 => ?_)
  · have hsure := hI.sure
    have hlen := hI.len
    have hcnt := hI.cnt
    simp only at hlen hcnt
    have hcl : (b.crash (i64of x.n)).all.length ≤ 200000000000 := by
      show (b.all.take _).length ≤ _
      rw [List.length_take]
      omega
    skip; (repeat (first | with_reducible refine AW.seq ?_ | with_reducible refine AW.skip ?_ | with_reducible refine AW.block ?_ | ((with_reducible refine RG.id ?_); refine RG.nil ⟨?_, ?_⟩; · kernel_rfl) | ((with_reducible refine RG.id ?_); refine RG.nil ?_) | ((with_reducible refine AW.text ?_); refine RG.runG ty_ok 0 400 rfl ?_) | ((with_reducible refine AW.draws mixed_ok ?_); refine RG.runG ty_ok 0 400 rfl ?_)))
    refine RG.ownN [(100, 0), (101, 1)] [(0, 100), (1, 101)] (fun q => m_Crash b (i64of x.n) hsure (by omega) q) rfl rfl rfl rfl rfl rfl rfl rfl rfl rfl ?_
    refine RG.runG ty_ok 0 400 rfl ?_; (repeat (first | with_reducible refine AW.seq ?_ | with_reducible refine AW.skip ?_ | with_reducible refine AW.block ?_ | ((with_reducible refine RG.id ?_); refine RG.nil ⟨?_, ?_⟩; · kernel_rfl) | ((with_reducible refine RG.id ?_); refine RG.nil ?_) | ((with_reducible refine AW.text ?_); refine RG.runG ty_ok 0 400 rfl ?_) | ((with_reducible refine AW.draws mixed_ok ?_); refine RG.runG ty_ok 0 400 rfl ?_)))
    rcases hI.crash (i64of x.n) with ⟨p, hp, ha⟩ | ⟨rfl, hmy, ha⟩
    · have hE := fun q => m_Entries (b.crash (i64of x.n)) rfl es p hp hI.ok ha (by omega) q
      refine RG.ownN [(100, 0), (101, 1)] [(0, 100), (1, 101)] hE rfl rfl rfl rfl rfl rfl rfl rfl rfl rfl ?_
      refine RG.runG ty_ok 0 400 rfl ?_; (repeat (first | with_reducible refine AW.seq ?_ | with_reducible refine AW.skip ?_ | with_reducible refine AW.block ?_ | ((with_reducible refine RG.id ?_); refine RG.nil ⟨?_, ?_⟩; · kernel_rfl) | ((with_reducible refine RG.id ?_); refine RG.nil ?_) | ((with_reducible refine AW.text ?_); refine RG.runG ty_ok 0 400 rfl ?_) | ((with_reducible refine AW.draws mixed_ok ?_); refine RG.runG ty_ok 0 400 rfl ?_))); refine AW.condF rfl ?_; skip; (repeat (first | with_reducible refine AW.seq ?_ | with_reducible refine AW.skip ?_ | with_reducible refine AW.block ?_ | ((with_reducible refine RG.id ?_); refine RG.nil ⟨?_, ?_⟩; · kernel_rfl) | ((with_reducible refine RG.id ?_); refine RG.nil ?_) | with_reducible refine AW.text ?_ | with_reducible refine AW.draws mixed_ok ?_))
      have hR := hI.read (i64of x.n) hI.ok (by simp only; omega) ha hsure
      have hne : ¬ (((es.map enC).length : Nat) : Int) = IntKind.i64.wrap (((es.map enC).length : Nat) + 1) := by
        rw [List.length_map, IntKind.wrap_i64]
        omega
      cases off
      · refine RG.runG ty_ok 0 400 rfl ?_; (repeat (first | with_reducible refine AW.seq ?_ | with_reducible refine AW.skip ?_ | with_reducible refine AW.block ?_ | ((with_reducible refine RG.id ?_); refine RG.nil ⟨?_, ?_⟩; · kernel_rfl) | ((with_reducible refine RG.id ?_); refine RG.nil ?_) | ((with_reducible refine AW.text ?_); refine RG.runG ty_ok 0 400 rfl ?_) | ((with_reducible refine AW.draws mixed_ok ?_); refine RG.runG ty_ok 0 400 rfl ?_))); refine AW.condF rfl ?_; skip; (repeat (first | with_reducible refine AW.seq ?_ | with_reducible refine AW.skip ?_ | with_reducible refine AW.block ?_ | ((with_reducible refine RG.id ?_); refine RG.nil ⟨?_, ?_⟩; · kernel_rfl) | ((with_reducible refine RG.id ?_); refine RG.nil ?_) | ((with_reducible refine AW.text ?_); refine RG.runG ty_ok 0 400 rfl ?_) | ((with_reducible refine AW.draws mixed_ok ?_); refine RG.runG ty_ok 0 400 rfl ?_)))
        refine RG.callS rfl rfl rfl rfl (row_all _ _) (d_told es es true (by simp) (by omega)) rfl rfl ?_
        refine RG.runG ty_ok 0 400 rfl ?_; (repeat (first | with_reducible refine AW.seq ?_ | with_reducible refine AW.skip ?_ | with_reducible refine AW.block ?_ | ((with_reducible refine RG.id ?_); refine RG.nil ⟨?_, ?_⟩; · kernel_rfl) | ((with_reducible refine RG.id ?_); refine RG.nil ?_) | ((with_reducible refine AW.text ?_); refine RG.runG ty_ok 0 400 rfl ?_) | ((with_reducible refine AW.draws mixed_ok ?_); refine RG.runG ty_ok 0 400 rfl ?_))); refine AW.condF rfl ?_; skip; (repeat (first | with_reducible refine AW.seq ?_ | with_reducible refine AW.skip ?_ | with_reducible refine AW.block ?_ | ((with_reducible refine RG.id ?_); refine RG.nil ⟨?_, ?_⟩; · kernel_rfl) | ((with_reducible refine RG.id ?_); refine RG.nil ?_) | ((with_reducible refine AW.text ?_); refine RG.runG ty_ok 0 400 rfl ?_) | ((with_reducible refine AW.draws mixed_ok ?_); refine RG.runG ty_ok 0 400 rfl ?_)))
        exact ⟨(k + 1, ⟨es, false, my, (b.crash (i64of x.n)).read es⟩), ⟨⟨hlt.1, hlt.2, hR⟩, hm⟩, ⟨Rn.is rfl rfl, Rn.ownIs rfl rfl rfl, Rn.rowIs rfl rfl rfl, Rn.is rfl rfl, Rn.is rfl rfl, Rn.ownIs rfl rfl rfl, .is hnx rfl, trivial⟩, .boxL rfl ⟨Rn.rowIs rfl rfl rfl, Rn.is rfl rfl, Rn.is rfl rfl, Rn.is rfl rfl, trivial⟩ rfl, .row rfl rfl, .row rfl rfl, .same rfl rfl rfl, trivial⟩
      · refine RG.runO ty_ok 0 [(96, .b false)] 400 rfl ⟨congrArg AV.b (decide_eq_false hne), trivial⟩ ?_
        skip; (repeat (first | with_reducible refine AW.seq ?_ | with_reducible refine AW.skip ?_ | with_reducible refine AW.block ?_ | ((with_reducible refine RG.id ?_); refine RG.nil ⟨?_, ?_⟩; · kernel_rfl) | ((with_reducible refine RG.id ?_); refine RG.nil ?_) | ((with_reducible refine AW.text ?_); refine RG.runG ty_ok 0 400 rfl ?_) | ((with_reducible refine AW.draws mixed_ok ?_); refine RG.runG ty_ok 0 400 rfl ?_))); refine AW.condF rfl ?_; skip; (repeat (first | with_reducible refine AW.seq ?_ | with_reducible refine AW.skip ?_ | with_reducible refine AW.block ?_ | ((with_reducible refine RG.id ?_); refine RG.nil ⟨?_, ?_⟩; · kernel_rfl) | ((with_reducible refine RG.id ?_); refine RG.nil ?_) | ((with_reducible refine AW.text ?_); refine RG.runG ty_ok 0 400 rfl ?_) | ((with_reducible refine AW.draws mixed_ok ?_); refine RG.runG ty_ok 0 400 rfl ?_)))
        refine RG.callS rfl rfl rfl rfl (row_all _ _) (d_told es es true (by simp) (by omega)) rfl rfl ?_
        refine RG.runG ty_ok 0 400 rfl ?_; (repeat (first | with_reducible refine AW.seq ?_ | with_reducible refine AW.skip ?_ | with_reducible refine AW.block ?_ | ((with_reducible refine RG.id ?_); refine RG.nil ⟨?_, ?_⟩; · kernel_rfl) | ((with_reducible refine RG.id ?_); refine RG.nil ?_) | ((with_reducible refine AW.text ?_); refine RG.runG ty_ok 0 400 rfl ?_) | ((with_reducible refine AW.draws mixed_ok ?_); refine RG.runG ty_ok 0 400 rfl ?_))); refine AW.condF rfl ?_; skip; (repeat (first | with_reducible refine AW.seq ?_ | with_reducible refine AW.skip ?_ | with_reducible refine AW.block ?_ | ((with_reducible refine RG.id ?_); refine RG.nil ⟨?_, ?_⟩; · kernel_rfl) | ((with_reducible refine RG.id ?_); refine RG.nil ?_) | ((with_reducible refine AW.text ?_); refine RG.runG ty_ok 0 400 rfl ?_) | ((with_reducible refine AW.draws mixed_ok ?_); refine RG.runG ty_ok 0 400 rfl ?_)))
        exact ⟨(k + 1, ⟨es, false, my, (b.crash (i64of x.n)).read es⟩), ⟨⟨hlt.1, hlt.2, hR⟩, hm⟩, ⟨Rn.is rfl rfl, Rn.ownIs rfl rfl rfl, Rn.rowIs rfl rfl rfl, Rn.is rfl rfl, Rn.is rfl rfl, Rn.ownIs rfl rfl rfl, .is hnx rfl, trivial⟩, .boxL rfl ⟨Rn.rowIs rfl rfl rfl, Rn.is rfl rfl, Rn.is rfl rfl, Rn.is rfl rfl, trivial⟩ rfl, .row rfl rfl, .row rfl rfl, .same rfl rfl rfl, trivial⟩
    · have hok : ∀ e ∈ es ++ [my], okEn e := fun e he => by
        rcases List.mem_append.1 he with he | he
        · exact hI.ok e he
        · obtain rfl := List.mem_singleton.1 he
          exact hmy
      have hE := fun q => m_Entries (b.crash (i64of x.n)) rfl (es ++ [my]) [] (.inl (by simp)) hok ha (by omega) q
      refine RG.ownN [(100, 0), (101, 1)] [(0, 100), (1, 101)] hE rfl rfl rfl rfl rfl rfl rfl rfl rfl rfl ?_
      refine RG.runG ty_ok 0 400 rfl ?_; (repeat (first | with_reducible refine AW.seq ?_ | with_reducible refine AW.skip ?_ | with_reducible refine AW.block ?_ | ((with_reducible refine RG.id ?_); refine RG.nil ⟨?_, ?_⟩; · kernel_rfl) | ((with_reducible refine RG.id ?_); refine RG.nil ?_) | ((with_reducible refine AW.text ?_); refine RG.runG ty_ok 0 400 rfl ?_) | ((with_reducible refine AW.draws mixed_ok ?_); refine RG.runG ty_ok 0 400 rfl ?_))); refine AW.condF rfl ?_; skip; (repeat (first | with_reducible refine AW.seq ?_ | with_reducible refine AW.skip ?_ | with_reducible refine AW.block ?_ | ((with_reducible refine RG.id ?_); refine RG.nil ⟨?_, ?_⟩; · kernel_rfl) | ((with_reducible refine RG.id ?_); refine RG.nil ?_) | with_reducible refine AW.text ?_ | with_reducible refine AW.draws mixed_ok ?_))
      have hR := hI.read (i64of x.n) hok (by simp only [List.length_append, List.length_singleton]; omega) ha hsure
      have heq : ((((es ++ [my]).map enC).length : Nat) : Int) = IntKind.i64.wrap (((es.map enC).length : Nat) + 1) := by
        rw [List.length_map, List.length_map, IntKind.wrap_i64, List.length_append, List.length_singleton]
        omega
      have hls : IntKind.i64.wrap (((((es ++ [my]).map enC).length : Nat) : Int) - 1) = (es.length : Nat) := by
        rw [List.length_map, IntKind.wrap_i64, List.length_append, List.length_singleton]
        omega
      refine RG.runO ty_ok 0 [(96, .b true), (102, .i .i64 (es.length : Nat))] 400 rfl ⟨congrArg (AV.i .i64) hls, congrArg AV.b (decide_eq_true heq), trivial⟩ ?_
      refine RG.opS rfl (op_index rfl (tab_ok ty_ok rfl) rfl (tab_ok ty_ok rfl) rfl rfl (show ((es ++ [my]).map enC)[es.length]? = some (enC my) by simp) rfl) rfl ?_
      refine RG.runG ty_ok 0 400 rfl ?_; (repeat (first | with_reducible refine AW.seq ?_ | with_reducible refine AW.skip ?_ | with_reducible refine AW.block ?_ | ((with_reducible refine RG.id ?_); refine RG.nil ⟨?_, ?_⟩; · kernel_rfl) | ((with_reducible refine RG.id ?_); refine RG.nil ?_) | ((with_reducible refine AW.text ?_); refine RG.runG ty_ok 0 400 rfl ?_) | ((with_reducible refine AW.draws mixed_ok ?_); refine RG.runG ty_ok 0 400 rfl ?_)))
      refine RG.callS rfl rfl rfl rfl rfl (d_same my my true (by simp)) rfl rfl ?_
      refine RG.runG ty_ok 0 400 rfl ?_; (repeat (first | with_reducible refine AW.seq ?_ | with_reducible refine AW.skip ?_ | with_reducible refine AW.block ?_ | ((with_reducible refine RG.id ?_); refine RG.nil ⟨?_, ?_⟩; · kernel_rfl) | ((with_reducible refine RG.id ?_); refine RG.nil ?_) | ((with_reducible refine AW.text ?_); refine RG.runG ty_ok 0 400 rfl ?_) | ((with_reducible refine AW.draws mixed_ok ?_); refine RG.runG ty_ok 0 400 rfl ?_))); refine AW.condT rfl ?_; skip; (repeat (first | with_reducible refine AW.seq ?_ | with_reducible refine AW.skip ?_ | with_reducible refine AW.block ?_ | ((with_reducible refine RG.id ?_); refine RG.nil ⟨?_, ?_⟩; · kernel_rfl) | ((with_reducible refine RG.id ?_); refine RG.nil ?_) | ((with_reducible refine AW.text ?_); refine RG.runG ty_ok 0 400 rfl ?_) | ((with_reducible refine AW.draws mixed_ok ?_); refine RG.runG ty_ok 0 400 rfl ?_)))
      refine RG.opS rfl (op_appendR (id := 22) (id2 := 110) (els := es.map enC) (els2 := [enC my]) (r := (es ++ [my]).map enC) rfl rfl rfl rfl (tab_ok ty_ok rfl) rfl (tab_ok ty_ok rfl) rfl (.inl ⟨_, rfl, rfl⟩) rfl rfl ?_ ?_ ?_ rfl) rfl ?_
      · rw [List.length_map]
        show (es.length + 1) * 128 ≤ _
        omega
      · rw [List.length_map]
        show es.length + 1 ≤ _
        omega
      · rw [List.map_append]
        rfl
      refine RG.runG ty_ok 0 400 rfl ?_; (repeat (first | with_reducible refine AW.seq ?_ | with_reducible refine AW.skip ?_ | with_reducible refine AW.block ?_ | ((with_reducible refine RG.id ?_); refine RG.nil ⟨?_, ?_⟩; · kernel_rfl) | ((with_reducible refine RG.id ?_); refine RG.nil ?_) | ((with_reducible refine AW.text ?_); refine RG.runG ty_ok 0 400 rfl ?_) | ((with_reducible refine AW.draws mixed_ok ?_); refine RG.runG ty_ok 0 400 rfl ?_)))
      refine RG.callS rfl rfl rfl rfl (row_all _ _) (d_told (es ++ [my]) (es ++ [my]) true (by simp) (by simp only [List.length_append, List.length_singleton]; omega)) rfl rfl ?_
      refine RG.runG ty_ok 0 400 rfl ?_; (repeat (first | with_reducible refine AW.seq ?_ | with_reducible refine AW.skip ?_ | with_reducible refine AW.block ?_ | ((with_reducible refine RG.id ?_); refine RG.nil ⟨?_, ?_⟩; · kernel_rfl) | ((with_reducible refine RG.id ?_); refine RG.nil ?_) | ((with_reducible refine AW.text ?_); refine RG.runG ty_ok 0 400 rfl ?_) | ((with_reducible refine AW.draws mixed_ok ?_); refine RG.runG ty_ok 0 400 rfl ?_))); refine AW.condF rfl ?_; skip; (repeat (first | with_reducible refine AW.seq ?_ | with_reducible refine AW.skip ?_ | with_reducible refine AW.block ?_ | ((with_reducible refine RG.id ?_); refine RG.nil ⟨?_, ?_⟩; · kernel_rfl) | ((with_reducible refine RG.id ?_); refine RG.nil ?_) | ((with_reducible refine AW.text ?_); refine RG.runG ty_ok 0 400 rfl ?_) | ((with_reducible refine AW.draws mixed_ok ?_); refine RG.runG ty_ok 0 400 rfl ?_)))
      exact ⟨(k + 1, ⟨es ++ [my], false, my, (b.crash (i64of x.n)).read (es ++ [my])⟩), ⟨⟨hlt.1, hlt.2, hR⟩, hm⟩, ⟨Rn.is rfl rfl, Rn.ownIs rfl rfl rfl, Rn.rowIs rfl rfl rfl, Rn.is rfl rfl, Rn.is rfl rfl, Rn.ownIs rfl rfl rfl, .is hnx rfl, trivial⟩, .boxL rfl ⟨Rn.rowIs rfl rfl rfl, Rn.is rfl rfl, Rn.is rfl rfl, Rn.is rfl rfl, trivial⟩ rfl, .row rfl rfl, .row rfl rfl, .same rfl rfl rfl, trivial⟩
  skip; (repeat (first | with_reducible refine AW.seq ?_ | with_reducible refine AW.skip ?_ | with_reducible refine AW.block ?_ | ((with_reducible refine RG.id ?_); refine RG.nil ⟨?_, ?_⟩; · kernel_rfl) | ((with_reducible refine RG.id ?_); refine RG.nil ?_) | ((with_reducible refine AW.text ?_); refine RG.runG ty_ok 0 400 rfl ?_) | ((with_reducible refine AW.draws mixed_ok ?_); refine RG.runG ty_ok 0 400 rfl ?_)))
  refine AW.cond rfl (fun h3 => ?_) (fun h3 => ?_)
  · have hlen := hI.len
    have hcnt := hI.cnt
    simp only at hlen hcnt
    cases off
    · have hu := hI.up rfl
      simp only at hu
      have hE := fun q => m_Entries b hu.1 es [] (.inl (by simp)) hI.ok (by rw [hu.2.1, List.append_nil]) (by omega) q
      have hrd : b.read es = b := by
        cases b
        simp only [Bk.read, Bk.mk.injEq, and_true] at hu ⊢
        exact ⟨hu.2.1.symm, by rw [hu.2.2, hu.2.1]⟩
      rw [hrd] at hE
      skip; (repeat (first | with_reducible refine AW.seq ?_ | with_reducible refine AW.skip ?_ | with_reducible refine AW.block ?_ | ((with_reducible refine RG.id ?_); refine RG.nil ⟨?_, ?_⟩; · kernel_rfl) | ((with_reducible refine RG.id ?_); refine RG.nil ?_) | ((with_reducible refine AW.text ?_); refine RG.runG ty_ok 0 400 rfl ?_) | ((with_reducible refine AW.draws mixed_ok ?_); refine RG.runG ty_ok 0 400 rfl ?_)))
      refine RG.ownN [(100, 0), (101, 1)] [(0, 100), (1, 101)] hE rfl rfl rfl rfl rfl rfl rfl rfl rfl rfl ?_
      refine RG.runG ty_ok 0 400 rfl ?_; (repeat (first | with_reducible refine AW.seq ?_ | with_reducible refine AW.skip ?_ | with_reducible refine AW.block ?_ | ((with_reducible refine RG.id ?_); refine RG.nil ⟨?_, ?_⟩; · kernel_rfl) | ((with_reducible refine RG.id ?_); refine RG.nil ?_) | ((with_reducible refine AW.text ?_); refine RG.runG ty_ok 0 400 rfl ?_) | ((with_reducible refine AW.draws mixed_ok ?_); refine RG.runG ty_ok 0 400 rfl ?_)))
      refine RG.callS rfl rfl rfl rfl (row_all _ _) (d_told es es true (by simp) (by omega)) rfl rfl ?_
      refine RG.runG ty_ok 0 400 rfl ?_; (repeat (first | with_reducible refine AW.seq ?_ | with_reducible refine AW.skip ?_ | with_reducible refine AW.block ?_ | ((with_reducible refine RG.id ?_); refine RG.nil ⟨?_, ?_⟩; · kernel_rfl) | ((with_reducible refine RG.id ?_); refine RG.nil ?_) | ((with_reducible refine AW.text ?_); refine RG.runG ty_ok 0 400 rfl ?_) | ((with_reducible refine AW.draws mixed_ok ?_); refine RG.runG ty_ok 0 400 rfl ?_))); refine AW.condF rfl ?_; skip; (repeat (first | with_reducible refine AW.seq ?_ | with_reducible refine AW.skip ?_ | with_reducible refine AW.block ?_ | ((with_reducible refine RG.id ?_); refine RG.nil ⟨?_, ?_⟩; · kernel_rfl) | ((with_reducible refine RG.id ?_); refine RG.nil ?_) | ((with_reducible refine AW.text ?_); refine RG.runG ty_ok 0 400 rfl ?_) | ((with_reducible refine AW.draws mixed_ok ?_); refine RG.runG ty_ok 0 400 rfl ?_)))
      exact ⟨(k + 1, ⟨es, false, my, b⟩), ⟨⟨hlt.1, hlt.2, hI.mono⟩, hm⟩, ⟨Rn.is rfl rfl, Rn.ownIs rfl rfl rfl, Rn.rowIs rfl rfl rfl, Rn.is rfl rfl, Rn.is rfl rfl, Rn.ownIs rfl rfl rfl, .is hnx rfl, trivial⟩, .boxL rfl ⟨Rn.rowIs rfl rfl rfl, Rn.is rfl rfl, Rn.is rfl rfl, Rn.is rfl rfl, trivial⟩ rfl, .row rfl rfl, .row rfl rfl, .same rfl rfl rfl, trivial⟩
    · skip; (repeat (first | with_reducible refine AW.seq ?_ | with_reducible refine AW.skip ?_ | with_reducible refine AW.block ?_ | ((with_reducible refine RG.id ?_); refine RG.nil ⟨?_, ?_⟩; · kernel_rfl) | ((with_reducible refine RG.id ?_); refine RG.nil ?_) | ((with_reducible refine AW.text ?_); refine RG.runG ty_ok 0 400 rfl ?_) | ((with_reducible refine AW.draws mixed_ok ?_); refine RG.runG ty_ok 0 400 rfl ?_)))
      refine RG.ownN [(100, 0), (101, 1)] [(0, 100), (1, 101)] (fun q => m_Entries_down b (hI.down rfl).1 q) rfl rfl rfl rfl rfl rfl rfl rfl rfl rfl ?_
      refine RG.runG ty_ok 0 400 rfl ?_; (repeat (first | with_reducible refine AW.seq ?_ | with_reducible refine AW.skip ?_ | with_reducible refine AW.block ?_ | ((with_reducible refine RG.id ?_); refine RG.nil ⟨?_, ?_⟩; · kernel_rfl) | ((with_reducible refine RG.id ?_); refine RG.nil ?_) | ((with_reducible refine AW.text ?_); refine RG.runG ty_ok 0 400 rfl ?_) | ((with_reducible refine AW.draws mixed_ok ?_); refine RG.runG ty_ok 0 400 rfl ?_))); refine AW.condF rfl ?_; skip; (repeat (first | with_reducible refine AW.seq ?_ | with_reducible refine AW.skip ?_ | with_reducible refine AW.block ?_ | ((with_reducible refine RG.id ?_); refine RG.nil ⟨?_, ?_⟩; · kernel_rfl) | ((with_reducible refine RG.id ?_); refine RG.nil ?_) | ((with_reducible refine AW.text ?_); refine RG.runG ty_ok 0 400 rfl ?_) | ((with_reducible refine AW.draws mixed_ok ?_); refine RG.runG ty_ok 0 400 rfl ?_)))
      exact ⟨(k + 1, ⟨es, true, my, b⟩), ⟨⟨hlt.1, hlt.2, hI.mono⟩, hm⟩, ⟨Rn.is rfl rfl, Rn.ownIs rfl rfl rfl, Rn.rowIs rfl rfl rfl, Rn.is rfl rfl, Rn.is rfl rfl, Rn.ownIs rfl rfl rfl, .is hnx rfl, trivial⟩, .boxL rfl ⟨Rn.rowIs rfl rfl rfl, Rn.is rfl rfl, Rn.is rfl rfl, Rn.is rfl rfl, trivial⟩ rfl, .row rfl rfl, .row rfl rfl, .same rfl rfl rfl, trivial⟩
  · skip
    skip; (repeat (first | with_reducible refine AW.seq ?_ | with_reducible refine AW.skip ?_ | with_reducible refine AW.block ?_ | ((with_reducible refine RG.id ?_); refine RG.nil ⟨?_, ?_⟩; · kernel_rfl) | ((with_reducible refine RG.id ?_); refine RG.nil ?_) | ((with_reducible refine AW.text ?_); refine RG.runG ty_ok 0 400 rfl ?_) | ((with_reducible refine AW.draws mixed_ok ?_); refine RG.runG ty_ok 0 400 rfl ?_)))
    exact ⟨(k + 1, ⟨es, off, my, b⟩), ⟨⟨hlt.1, hlt.2, hI.mono⟩, hm⟩, ⟨Rn.is rfl rfl, Rn.ownIs rfl rfl rfl, Rn.rowIs rfl rfl rfl, Rn.is rfl rfl, Rn.is rfl rfl, Rn.ownIs rfl rfl rfl, .is hnx rfl, trivial⟩, .boxL rfl ⟨Rn.rowIs rfl rfl rfl, Rn.is rfl rfl, Rn.is rfl rfl, Rn.is rfl rfl, trivial⟩ rfl, .row rfl rfl, .row rfl rfl, .same rfl rfl rfl, trivial⟩
end Go.Proofs.Ytpaldbejnbcokaa.Sm
end
section
namespace Go.Proofs.Ytpaldbejnbcokaa.Sm
open Go.RowKit Go.WideShapes Go.ChangeShapes Go.Deep
set_option maxRecDepth 100000
theorem wf_u16 {n : Int} (h : (Lit.int .u16 n).wf = true) : ∃ x : UInt16, n = x.toNat := by
  have h : 0 ≤ n ∧ n ≤ 65535 := by simpa [Lit.wf, IntKind.min, IntKind.max, IntKind.signed, IntKind.bits] using h
  exact ⟨UInt16.ofNat n.toNat, by rw [UInt16.toNat_ofNat']; omega⟩
theorem rd_u16 : ReadA Try.prog 77 1 (fun x : UInt16 => [.i .u16 (x.toNat : Int)]) :=
  ⟨fun _ => rfl, fun _ y hy => by obtain rfl := List.mem_singleton.1 hy; rfl, fun H e w base spare held fuel cs x hx => by
    obtain ⟨n, rfl, _, hw⟩ := DataW.trod_int Try.underlying77 hx
    obtain ⟨y, rfl⟩ := wf_u16 hw
    exact ⟨y, .single (.i _ _) rfl⟩⟩
theorem rd_Sp : ReadA Try.prog 68 10 (α := Sp) encSp := by
  refine ⟨fun _ => rfl, fun a => List.all_eq_true.1 rfl, fun H e w base spare held fuel cs x hx => ?_⟩
  obtain ⟨m, hl, hp⟩ := struct_part Try.underlying68 hx
  have hl : cs.length = 10 := hl.trans (by kernel_rfl)
  obtain ⟨a0, h0⟩ := rd_int.part (hp 0 3 0 1 rfl (by kernel_rfl))
  obtain ⟨a1, h1⟩ := rd_int.part (hp 1 3 1 1 rfl (by kernel_rfl))
  obtain ⟨a2, h2⟩ := rd_En.part (hp 2 57 2 8 rfl (by kernel_rfl))
  have e2 : (cs.drop 2).take 8 = cs.drop 2 := List.take_of_length_le (by rw [List.length_drop, hl]; omega)
  rw [e2] at h2
  have h1' : PWs w (fun b => b < w.heap.size) ([.i .i64 (i64of a1)] ++ enC a2) (cs.drop 1) := h1.join rfl h2
  have h0' : PWs w (fun b => b < w.heap.size) ([.i .i64 (i64of a0)] ++ ([.i .i64 (i64of a1)] ++ enC a2)) (cs.drop 0) := h0.join rfl h1'
  rw [← List.append_assoc] at h0'
  exact ⟨⟨a0, a1, a2⟩, PWs.all h0'⟩
theorem rd_Sps : ReadA Try.prog 63 1 (fun l : List Sp => [.sl (l.map encSp)]) := rd_Sp.slice Try.underlying63 (by kernel_rfl) (by decide)
theorem rd_u8s : ReadA Try.prog 32 1 (fun l : List UInt8 => [.sl (l.map fun x => [.y x])]) := rd_u8.slice Try.underlying32 (by kernel_rfl) (by decide)
theorem rd_ints : ReadA Try.prog 50 1 (fun l : List UInt64 => [.sl (l.map fun x => [.i .i64 (i64of x)])]) := rd_int.slice Try.underlying50 (by kernel_rfl) (by decide)
end Go.Proofs.Ytpaldbejnbcokaa.Sm
end
