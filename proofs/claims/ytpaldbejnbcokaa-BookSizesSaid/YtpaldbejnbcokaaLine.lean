/- Contract of package customhouselaw21's line: the configuration that the law lays itself. -/
import Derived.Test.YtpaldbejnbcokaaAlike
namespace Go.Proofs.Ytpaldbejnbcokaa
open Go.RowKit
set_option linter.unusedSimpArgs false
set_option linter.unusedVariables false

/-- Blocks that are laid one after the other. -/
def allocs (w : World) : List Obj → World
  | [] => w
  | o :: os => allocs (w.alloc o) os
theorem allocs_kp (w : World) (os : List Obj) : Kp No w (allocs w os) := by
  induction os generalizing w with
  | nil => exact Kp.refl No w
  | cons o os ih => exact ((Kp.refl No w).alloc o).trans (ih _)
theorem allocs_get (w : World) (os : List Obj) (i : Nat) (o : Obj) (h : os[i]? = some o) : (allocs w os).heap[w.heap.size + i]? = some o := by
  induction os generalizing w i with
  | nil => cases h
  | cons x os ih =>
    cases i with
    | zero =>
      obtain rfl : x = o := Option.some.inj h
      exact (allocs_kp _ os).heap (heap_alloc_new w x) id
    | succ i =>
      have h' := ih (w.alloc x) i h
      rw [alloc_size] at h'
      rw [show w.heap.size + (i + 1) = w.heap.size + 1 + i by omega]
      exact h'
/-- A slice over a whole block. -/
theorem SliceAt.of_row {α : Type} {R : Rep α} {w : World} {F : Nat → Prop} {b : Nat} {xs : List α} {cs : Array Value} {t : TypeId} {n : Nat} (hb : w.heap[b]? = some (.cells cs t (0, 0))) (hF : F b) (hn : n = xs.length) (hl : n ≤ 1000) (ha : All2 (R.rel w F) xs cs.toList) : SliceAt R w F xs (.slice (some ⟨b, 0, none⟩) n n) := by
  subst hn
  have hlt : b < w.heap.size := (Array.getElem?_eq_some_iff.1 hb).1
  refine ⟨_, xs.length, rfl, Nat.le_refl _, by unfold maxLen; omega, fun _ => ⟨b, 0, rfl, hF, hlt, cs.toList, ha, fun j u hu => ?_⟩⟩
  rw [Nat.zero_add, cell_of_row _ b j _ _ _ hb]
  · rw [← hu]
    exact (Array.getElem?_toList ..).symm

theorem all2_one {α : Type} {r : α → List Value → Prop} {x : α} {c : List Value} (h : r x c) : All2 r [x] c := ⟨c, [], (List.append_nil _).symm, h, rfl⟩
theorem all2_two {α : Type} {r : α → List Value → Prop} {x y : α} {c d : List Value} (h : r x c) (g : r y d) : All2 r [x, y] (c ++ d) := ⟨c, d, rfl, h, all2_one g⟩
theorem pt_rel (W : World) (F : Nat → Prop) (x : Pt) : ptR.rel W F x [.int .i64 (i64of x.kind), .int .i64 (i64of x.tenant), .int .i64 (i64of x.peer), .int .i64 (i64of x.at_), .int .i64 (i64of x.cost)] := rfl
theorem rl_rel (W : World) (F : Nat → Prop) (x : Rl) : rlR.rel W F x (rlCells x) := rfl
theorem sl_rel {α : Type} {R : Rep α} {W : World} {F : Nat → Prop} {x : List α} {v : Value} (h : SliceAt R W F x v) : R.slice.rel W F x [v] := ⟨v, rfl, h⟩

def lineM : Cb := ⟨⟨0, 1⟩, ⟨0, 1⟩⟩
def lineZ : Cb := ⟨⟨0, 0⟩, ⟨0, 0⟩⟩
def lineR (k : UInt64) : Rl := ⟨1, lineM, ⟨k, 1, 0, lineZ⟩⟩
def lineD : Rl := ⟨0, lineZ, ⟨1, 0, 0, lineZ⟩⟩
/-- The configuration that line lays. -/
def lineC : Cfg := ⟨[[⟨1, 0, 0, 0, 0⟩, ⟨2, 0, 1, 0, 1⟩], [⟨2, 0, 0, 1, 1⟩, ⟨1, 0, 0, 0, 0⟩]], 1, [], [], [[[lineR 3, lineD]], [[lineR 2, lineD]]]⟩
/-- What is handed back as a configuration. -/
def CfgIs (w : World) (F : Nat → Prop) (c : Cfg) (v : Value) : Prop :=
  ∃ v1 v2 v3 v4, v = .agg #[v1, .int .i64 (i64of c.tenants), v2, v3, v4] ∧ SliceAt ptR.slice w F c.ports v1 ∧ SliceAt prR w F c.peers v2 ∧ SliceAt wyR w F c.ways v3 ∧ SliceAt rlR.slice.slice w F c.tables v4
theorem line_i : i64of 0 = 0 ∧ i64of 1 = 1 ∧ i64of 2 = 2 ∧ i64of 3 = 3 := ⟨i64of_small (n := 0) (by omega), i64of_small (n := 1) (by omega), i64of_small (n := 2) (by omega), i64of_small (n := 3) (by omega)⟩
theorem line_u : (((0 : UInt64).toNat : Nat) : Int) = 0 ∧ (((1 : UInt64).toNat : Nat) : Int) = 1 := ⟨rfl, rfl⟩

def lineOs (w : World) : List Obj := [Obj.cells #[.slice (some ⟨w.heap.size + 4, 0, none⟩) 2 2, .int .i64 1, .slice none 0 0, .slice none 0 0, .slice (some ⟨w.heap.size + 11, 0, none⟩) 2 2] 31, Obj.cells #[.slice (some ⟨w.heap.size + 4, 0, none⟩) 2 2, .int .i64 1, .slice none 0 0, .slice none 0 0, .slice (some ⟨w.heap.size + 11, 0, none⟩) 2 2] 31, Obj.cells #[.int .i64 1, .int .i64 0, .int .i64 0, .int .i64 0, .int .i64 0, .int .i64 2, .int .i64 0, .int .i64 1, .int .i64 0, .int .i64 1] 88, Obj.cells #[.int .i64 2, .int .i64 0, .int .i64 0, .int .i64 1, .int .i64 1, .int .i64 1, .int .i64 0, .int .i64 0, .int .i64 0, .int .i64 0] 88, Obj.cells #[.slice (some ⟨w.heap.size + 2, 0, none⟩) 2 2, .slice (some ⟨w.heap.size + 3, 0, none⟩) 2 2] 86, Obj.cells #[.int .u64 0, .int .u64 1, .int .u64 0, .int .u64 1] 108, Obj.cells #[.int .i64 0, .int .u64 0, .int .u64 0, .int .u64 0, .int .u64 0, .int .i64 1, .int .i64 0, .int .i64 0, .int .u64 0, .int .u64 0, .int .u64 0, .int .u64 0] 112, Obj.cells #[.int .i64 1, .int .u64 0, .int .u64 1, .int .u64 0, .int .u64 1, .int .i64 3, .int .i64 1, .int .i64 0, .int .u64 0, .int .u64 0, .int .u64 0, .int .u64 0, .int .i64 0, .int .u64 0, .int .u64 0, .int .u64 0, .int .u64 0, .int .i64 1, .int .i64 0, .int .i64 0, .int .u64 0, .int .u64 0, .int .u64 0, .int .u64 0] 112, Obj.cells #[.slice (some ⟨w.heap.size + 7, 0, none⟩) 2 2] 104, Obj.cells #[.int .i64 1, .int .u64 0, .int .u64 1, .int .u64 0, .int .u64 1, .int .i64 2, .int .i64 1, .int .i64 0, .int .u64 0, .int .u64 0, .int .u64 0, .int .u64 0, .int .i64 0, .int .u64 0, .int .u64 0, .int .u64 0, .int .u64 0, .int .i64 1, .int .i64 0, .int .i64 0, .int .u64 0, .int .u64 0, .int .u64 0, .int .u64 0] 112, Obj.cells #[.slice (some ⟨w.heap.size + 9, 0, none⟩) 2 2] 104, Obj.cells #[.slice (some ⟨w.heap.size + 8, 0, none⟩) 1 1, .slice (some ⟨w.heap.size + 10, 0, none⟩) 1 1] 44]
theorem line_at (w : World) : CfgIs (allocs w (lineOs w)) (From w.heap.size) lineC (.agg #[.slice (some ⟨w.heap.size + 4, 0, none⟩) 2 2, .int .i64 1, .slice none 0 0, .slice none 0 0, .slice (some ⟨w.heap.size + 11, 0, none⟩) 2 2]) := by
  obtain ⟨z0, z1, z2, z3⟩ := line_i
  obtain ⟨y0, y1⟩ := line_u
  have get := fun i o h => allocs_get w (lineOs w) i o h
  have from_ : ∀ i, From w.heap.size (w.heap.size + i) := fun i => Nat.le_add_right _ _
  generalize hW : allocs w (lineOs w) = W at get ⊢
  have g2 := get 2 (Obj.cells #[.int .i64 1, .int .i64 0, .int .i64 0, .int .i64 0, .int .i64 0, .int .i64 2, .int .i64 0, .int .i64 1, .int .i64 0, .int .i64 1] 88) rfl
  have g3 := get 3 (Obj.cells #[.int .i64 2, .int .i64 0, .int .i64 0, .int .i64 1, .int .i64 1, .int .i64 1, .int .i64 0, .int .i64 0, .int .i64 0, .int .i64 0] 88) rfl
  have g4 := get 4 (Obj.cells #[.slice (some ⟨w.heap.size + 2, 0, none⟩) 2 2, .slice (some ⟨w.heap.size + 3, 0, none⟩) 2 2] 86) rfl
  have g7 := get 7 (Obj.cells #[.int .i64 1, .int .u64 0, .int .u64 1, .int .u64 0, .int .u64 1, .int .i64 3, .int .i64 1, .int .i64 0, .int .u64 0, .int .u64 0, .int .u64 0, .int .u64 0, .int .i64 0, .int .u64 0, .int .u64 0, .int .u64 0, .int .u64 0, .int .i64 1, .int .i64 0, .int .i64 0, .int .u64 0, .int .u64 0, .int .u64 0, .int .u64 0] 112) rfl
  have g8 := get 8 (Obj.cells #[.slice (some ⟨w.heap.size + 7, 0, none⟩) 2 2] 104) rfl
  have g9 := get 9 (Obj.cells #[.int .i64 1, .int .u64 0, .int .u64 1, .int .u64 0, .int .u64 1, .int .i64 2, .int .i64 1, .int .i64 0, .int .u64 0, .int .u64 0, .int .u64 0, .int .u64 0, .int .i64 0, .int .u64 0, .int .u64 0, .int .u64 0, .int .u64 0, .int .i64 1, .int .i64 0, .int .i64 0, .int .u64 0, .int .u64 0, .int .u64 0, .int .u64 0] 112) rfl
  have g10 := get 10 (Obj.cells #[.slice (some ⟨w.heap.size + 9, 0, none⟩) 2 2] 104) rfl
  have g11 := get 11 (Obj.cells #[.slice (some ⟨w.heap.size + 8, 0, none⟩) 1 1, .slice (some ⟨w.heap.size + 10, 0, none⟩) 1 1] 44) rfl
  clear get hW
  have D : rlR.rel W (From w.heap.size) lineD [.int .i64 0, .int .u64 0, .int .u64 0, .int .u64 0, .int .u64 0, .int .i64 1, .int .i64 0, .int .i64 0, .int .u64 0, .int .u64 0, .int .u64 0, .int .u64 0] := by
    have h := rl_rel W (From w.heap.size) lineD
    simp only [rlCells, lineD, lineZ, z0, z1, y0] at h
    exact h
  have R3 : rlR.rel W (From w.heap.size) (lineR 3) [.int .i64 1, .int .u64 0, .int .u64 1, .int .u64 0, .int .u64 1, .int .i64 3, .int .i64 1, .int .i64 0, .int .u64 0, .int .u64 0, .int .u64 0, .int .u64 0] := by
    have h := rl_rel W (From w.heap.size) (lineR 3)
    simp only [rlCells, lineR, lineM, lineZ, z0, z1, z3, y0, y1] at h
    exact h
  have R2 : rlR.rel W (From w.heap.size) (lineR 2) [.int .i64 1, .int .u64 0, .int .u64 1, .int .u64 0, .int .u64 1, .int .i64 2, .int .i64 1, .int .i64 0, .int .u64 0, .int .u64 0, .int .u64 0, .int .u64 0] := by
    have h := rl_rel W (From w.heap.size) (lineR 2)
    simp only [rlCells, lineR, lineM, lineZ, z0, z1, z2, y0, y1] at h
    exact h
  have P0 : ptR.rel W (From w.heap.size) ⟨1, 0, 0, 0, 0⟩ [.int .i64 1, .int .i64 0, .int .i64 0, .int .i64 0, .int .i64 0] := by
    have h := pt_rel W (From w.heap.size) ⟨1, 0, 0, 0, 0⟩
    simp only [z0, z1, z2] at h
    exact h
  have P1 : ptR.rel W (From w.heap.size) ⟨2, 0, 1, 0, 1⟩ [.int .i64 2, .int .i64 0, .int .i64 1, .int .i64 0, .int .i64 1] := by
    have h := pt_rel W (From w.heap.size) ⟨2, 0, 1, 0, 1⟩
    simp only [z0, z1, z2] at h
    exact h
  have P2 : ptR.rel W (From w.heap.size) ⟨2, 0, 0, 1, 1⟩ [.int .i64 2, .int .i64 0, .int .i64 0, .int .i64 1, .int .i64 1] := by
    have h := pt_rel W (From w.heap.size) ⟨2, 0, 0, 1, 1⟩
    simp only [z0, z1, z2] at h
    exact h
  have s2 := SliceAt.of_row (F := From w.heap.size) (n := 2) g2 (from_ _) rfl (by omega) (all2_two P0 P1)
  have s3 := SliceAt.of_row (F := From w.heap.size) (n := 2) g3 (from_ _) rfl (by omega) (all2_two P2 P0)
  have s4 := SliceAt.of_row (F := From w.heap.size) (n := 2) g4 (from_ _) rfl (by omega) (all2_two (sl_rel s2) (sl_rel s3))
  have s7 := SliceAt.of_row (F := From w.heap.size) (n := 2) g7 (from_ _) rfl (by omega) (all2_two R3 D)
  have s9 := SliceAt.of_row (F := From w.heap.size) (n := 2) g9 (from_ _) rfl (by omega) (all2_two R2 D)
  have s8 := SliceAt.of_row (F := From w.heap.size) (n := 1) g8 (from_ _) rfl (by omega) (all2_one (sl_rel s7))
  have s10 := SliceAt.of_row (F := From w.heap.size) (n := 1) g10 (from_ _) rfl (by omega) (all2_one (sl_rel s9))
  have s11 := SliceAt.of_row (F := From w.heap.size) (n := 2) g11 (from_ _) rfl (by omega) (all2_two (sl_rel s8) (sl_rel s10))
  exact ⟨_, _, _, _, by rw [show lineC.tenants = 1 from rfl, z1], s4, SliceAt.nil _ _ _, SliceAt.nil _ _ _, s11⟩

set_option maxRecDepth 100000 in
set_option maxHeartbeats 4000000 in
theorem lw_line (w : World) : Calls Try.prog 43 #[] w fun e w' => ∃ v, e = .returned v ∧ CfgIs w' (From w.heap.size) lineC v ∧ Kp No w w' := by
  have H := Lib.hid (line_at w)
  have Hk := Lib.hid (allocs_kp w (lineOs w))
  go_enter Try.func43, Try.ntmps43
  go_wp2_with fail
  refine bodyPost_ret (v := .agg #[.slice (some ⟨w.heap.size + 4, 0, none⟩) 2 2, .int .i64 1, .slice none 0 0, .slice none 0 0, .slice (some ⟨w.heap.size + 11, 0, none⟩) 2 2]) ?_ rfl ⟨_, rfl, H.out, Hk.out⟩
  simp [results, Try.results43, go_sem]
end Go.Proofs.Ytpaldbejnbcokaa
