/- Arguments that are slices, with what the reach says of their length. No function of the program. -/
import Derived.Test.YtpaldbejnbcokaaRead
import Derived.SizedLaws
namespace Go.Proofs.Ytpaldbejnbcokaa
open Go.RowKit Go.WideShapes Go.ChangeShapes Go.Deep

/-- A slice argument, and its datum's length. -/
theorem Readable.arg_len {α : Type} {P : Program} {t e : TypeId} {R : Rep α} (hR : Readable P t R.slice) (ht : P.underlying t = some (.slice e)) {H : Type} {enc : TypeId × Value → H} {W : World} {base b0 : Nat} {spare : Nat → Bool} {held : Bool} {v : Value} {d : DataW H} {p : List MemPlace}
    (ho : Value.okWide P W .any b0 t v) (h : DataW.Trod enc P W base spare held t v d p) : ∃ xs : List α, SliceAt R W (fun b => b < W.heap.size) xs v ∧ (xs = [] ∨ ∃ elems sp, d = .slice elems sp ∧ elems.length = xs.length) := by
  obtain ⟨a, len, cap, rfl⟩ := okWide_slice ht ho
  obtain ⟨fuel, hf⟩ := h
  obtain ⟨xs, v', hv, hs⟩ := hR H enc W base spare held fuel _ _ hf
  have e1 : v' = .slice a len cap := by simpa [Value.cells] using hv.symm
  subst e1
  refine ⟨xs, hs, ?_⟩
  obtain ⟨A, n, c, hv', hn, _, _⟩ := hs.form'
  injection hv' with _ hlen _
  subst hlen
  rcases open_slice ht hf with ⟨h0, _⟩ | ⟨a', len', cap', m, k, D, Pl, h0, _, _, _, _, hx, _⟩
  · simp only [Value.cells, List.cons.injEq, and_true] at h0
    injection h0 with _ h1 _
    left
    have := hn.out
    rw [h1] at this
    exact List.length_eq_zero_iff.1 this.symm
  · simp only [Value.cells, List.cons.injEq, and_true] at h0
    injection h0 with _ h1 _
    right
    injection hx with hx1 hx2
    exact ⟨_, _, hx1, by rw [List.length_map, List.length_range, ← h1, hn.out]⟩

/-- The same, where the reach holds of all arguments. -/
theorem Readable.arg_reach {α : Type} {P : Program} {t e : TypeId} {R : Rep α} (hR : Readable P t R.slice) (ht : P.underlying t = some (.slice e)) {H : Type} {enc : TypeId × Value → H} {W : World} {base b0 : Nat} {spare : Nat → Bool} {held : Bool} {v : Value} {d : DataW H} {p : List MemPlace}
    {ts : List TypeId} {ds : List (DataW H)} (hsz : (DataW.weightsEach P ts ds).all (· ≤ reachBytes) = true) (j : Nat) (hj : ts[j]? = some t) (hd : ds[j]? = some d)
    (ho : Value.okWide P W .any b0 t v) (h : DataW.Trod enc P W base spare held t v d p) : ∃ xs : List α, SliceAt R W (fun b => b < W.heap.size) xs v ∧ xs.length * P.bytesOf e ≤ 140737488355328 := by
  obtain ⟨xs, hs, hl⟩ := hR.arg_len ht ho h
  refine ⟨xs, hs, ?_⟩
  rcases hl with rfl | ⟨elems, sp, rfl, hl⟩
  · simp
  · have h1 := sized_slice hsz hj hd ht
    have h2 := reachBytes_lt
    rw [← hl]
    have h3 : elems.length * P.bytesOf e ≤ (elems.length + sp.length) * P.bytesOf e := Nat.mul_le_mul_right _ (Nat.le_add_right _ _)
    omega
end Go.Proofs.Ytpaldbejnbcokaa
