/- Lengths of what fits; the law WireConfigs. -/
import Derived.Test.YtpaldbejnbcokaaWcD
import Derived.Test.YtpaldbejnbcokaaRdw
namespace Go.Proofs.Ytpaldbejnbcokaa.Sm
open Go.RowKit Go.WideShapes Go.ChangeShapes Go.Deep
set_option linter.unusedVariables false
set_option maxRecDepth 100000
theorem flatMap_le {α : Type} {f : α → List UInt64} {B : Nat} : ∀ (l : List α), (∀ x ∈ l, (f x).length ≤ B) → (l.flatMap f).length ≤ l.length * B
  | [], _ => by simp
  | x :: l, h => by
    have h1 := h x (by simp)
    have h2 := flatMap_le l fun y hy => h y (by simp [hy])
    rw [List.flatMap_cons, List.length_append, List.length_cons, Nat.add_mul]
    omega
theorem itemsW_le {α : Type} {ok : α → Bool} {f : α → List UInt64} {l : List α} {B : Nat} (hl : fitL ok l = true) (h : ∀ x, ok x = true → (f x).length ≤ B) : (itemsW f l).length ≤ 1 + 200 * B := by
  simp only [fitL, Bool.and_eq_true, decide_eq_true_eq, List.all_eq_true] at hl
  have h1 := flatMap_le l fun x hx => h x (hl.2 x hx)
  have h2 : l.length * B ≤ 200 * B := Nat.mul_le_mul_right _ hl.1
  simp only [itemsW, List.length_cons]
  omega
theorem tablesW_le {t : List (List Rl)} (h : tablesFit t = true) : (tablesW t).length ≤ 480201 := itemsW_le (B := 2401) h fun x hx => itemsW_le (B := 12) hx fun _ _ => by simp [Rl.words]
theorem words_le {c : Cfg} (h : c.fit = true) : c.words.length ≤ 97000000 := by
  simp only [Cfg.fit, Bool.and_eq_true] at h
  obtain ⟨h1, h2, h3, h4⟩ := h
  have e1 : (itemsW portsW c.ports).length ≤ 1 + 200 * 1001 := itemsW_le h1 fun x hx => itemsW_le (B := 5) hx fun _ _ => by simp [Pt.words]
  have e2 : (itemsW Pr.words c.peers).length ≤ 1 + 200 * 2 := itemsW_le h2 fun _ _ => by simp [Pr.words]
  have e3 : (itemsW Wy.words c.ways).length ≤ 1 + 200 * 3 := itemsW_le h3 fun _ _ => by simp [Wy.words]
  have e4 : (itemsW tablesW c.tables).length ≤ 1 + 200 * 480201 := itemsW_le h4 fun x hx => tablesW_le hx
  simp only [Cfg.words, List.length_append, List.length_cons]
  omega
theorem seal_le {ws : List UInt64} (h : ws.length ≤ 100000000) : (sealW ws).length ≤ 140737488355328 := by
  simp only [sealW, List.length_append, enc8_len, putF_len]
  omega
theorem fit_len {c : Cfg} (h : c.fit = true) : (sealW c.words).length ≤ 140737488355328 := seal_le (by have := words_le h; omega)
theorem lt_len {x : Lt} (h : tablesFit x.tables = true) : (sealW x.words).length ≤ 140737488355328 := seal_le (by have := tablesW_le h; simp only [Lt.words, List.length_cons]; omega)
theorem en_len {x : En} (h : x.cfg.fit = true) : (sealW x.words).length ≤ 140737488355328 := seal_le (by have := words_le h; simp only [En.words, List.length_cons]; omega)
section
variable {H : Type} {e : TypeId × Value → H} {W : World} {base : Nat}
theorem bytes_arg {b0 : Nat} {spare : Nat → Bool} {held : Bool} {v : Value} {d : DataW H} {p : List MemPlace} {ts : List TypeId} {ds : List (DataW H)} (hsz : (DataW.weightsEach Try.prog ts ds).all (· ≤ reachBytes) = true) (j : Nat) (hj : ts[j]? = some 32) (hd : ds[j]? = some d)
    (ho : Value.okWide Try.prog W .any b0 32 v) (hr : DataW.Trod e Try.prog W base spare held 32 v d p) : ∃ l : List UInt8, PRel W (fun b => b < W.heap.size) (.sl (byteEls l)) v ∧ l.length ≤ 140737488355328 := by
  obtain ⟨l, h1, h2⟩ := rd_u8.arg_sized Try.underlying32 (by kernel_rfl) (by decide) hsz j hj hd ho hr
  exact ⟨l, h1, by rwa [show Try.prog.bytesOf 5 = 1 by kernel_rfl, Nat.mul_one] at h2⟩
end
end Go.Proofs.Ytpaldbejnbcokaa.Sm
namespace Go.Proofs.Ytpaldbejnbcokaa
open Go.RowKit Go.WideShapes Go.ChangeShapes Go.Deep Sm
set_option maxRecDepth 100000
theorem WireConfigs_law {H : Type} {e : TypeId × Value → H} (W : World) (b0 : Nat) (v0 : Value) (d0 : DataW H) (p0 : List MemPlace) (ok0 : Value.okWide Try.prog W .any b0 31 v0) (h0 : DataW.Trod e Try.prog W 0 (fun _ => true) true 31 v0 d0 p0)
    (v1 : Value) (d1 : DataW H) (p1 : List MemPlace) (ok1 : Value.okWide Try.prog W .any b0 32 v1) (h1 : DataW.Trod e Try.prog W 0 (fun _ => true) true 32 v1 d1 p1)
    (hsz : (DataW.weightsEach Try.prog [31, 32] [d0, d1]).all (· ≤ reachBytes) = true) :
    Calls Try.prog 3 #[v0, v1] W fun e W' => e = .returned (.bool true) ∧ Kp No W W' := by
  obtain ⟨c, hc⟩ := rd_Cfg.arg_struct Try.underlying31 ok0 h0
  obtain ⟨l, hl, hb⟩ := bytes_arg hsz 1 rfl rfl ok1 h1
  exact (WireConfigs_d c l hb fit_len).law (vs := [v0, v1]) rfl (pw_cons hc (pw_cons hl pw_nil))
end Go.Proofs.Ytpaldbejnbcokaa
