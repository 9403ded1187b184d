/- Lists that lie in memory, read as abstract values, and back. Over any program. A law's arguments, as the form reads them, as abstract values. Over any program. -/
import Derived.Test.YtpaldbejnbcokaaSm2
import Derived.Test.YtpaldbejnbcokaaRead
import Derived.Test.YtpaldbejnbcokaaSized
section
namespace Go.Proofs.Ytpaldbejnbcokaa.Sm
open Go.RowKit
set_option linter.unusedVariables false
set_option linter.unusedSimpArgs false

/-- Cells that a representation tells read as data, and back. -/
structure Enc {α : Type} (R : Rep α) (enc : α → List AV) : Prop where
  len : ∀ x, (enc x).length = R.n
  one : ∀ x, ∀ y ∈ enc x, y.one = true
  to : ∀ {W : World} {F : Nat → Prop} {x : α} {cs : List Value}, R.rel W F x cs → ∀ (j : Nat) (y : AV) (u : Value), (enc x)[j]? = some y → cs[j]? = some u → PRel W F y u
  of : ∀ {W : World} {F : Nat → Prop} {x : α} {cs : List Value}, cs.length = R.n → (∀ (j : Nat) (y : AV) (u : Value), (enc x)[j]? = some y → cs[j]? = some u → PRel W F y u) → R.rel W F x cs
theorem val_eq' {W : World} {F : Nat → Prop} {x : AV} {v u : Value} (h : x.val? = some u) (hr : PRel W F x v) : v = u := val_eq (μ := fun _ => none) (σ := fun _ => ⟨0, none⟩) h (.pure hr)
theorem Enc.plain {α : Type} {n : Nat} {e0 : α → List Value} {hn : ∀ x, (e0 x).length = n} {h1 : ∀ x, ∀ u ∈ e0 x, u.oneCell' = true} {enc : α → List AV} (h : ∀ x, (enc x).map AV.val? = (e0 x).map some) : Enc (Rep.plain n e0 hn h1) enc := by
  have get : ∀ (x : α) (j : Nat) (y : AV), (enc x)[j]? = some y → ∃ v, (e0 x)[j]? = some v ∧ y.val? = some v := fun x j y hj => by
    have e := congrArg (fun l => l[j]?) (h x)
    simp only [List.getElem?_map, hj, Option.map_some] at e
    cases hv : (e0 x)[j]? with
    | none => rw [hv] at e; cases e
    | some v =>
      rw [hv] at e
      exact ⟨v, rfl, by simpa using e⟩
  have hlen : ∀ x, (enc x).length = n := fun x => by
    have e := congrArg List.length (h x)
    simp only [List.length_map] at e
    rw [e]
    exact hn x
  refine ⟨hlen, fun x y hy => ?_, fun {W F x cs} hr j y u hj hu => ?_, fun {W F x cs} hl hp => ?_⟩
  · obtain ⟨j, hj⟩ := List.getElem?_of_mem hy
    obtain ⟨v, hv, he⟩ := get x j y hj
    have h0 := h1 x v (List.mem_of_getElem? hv)
    cases y <;> first | rfl | (simp [AV.val?] at he; done) | skip
    rename_i w
    obtain rfl : w = v := by simpa [AV.val?] using he
    exact h0
  · obtain rfl : cs = e0 x := hr
    obtain ⟨v, hv, he⟩ := get x j y hj
    obtain rfl : u = v := Option.some.inj (hu.symm.trans hv)
    exact val_rel he
  · show cs = e0 x
    have hl : cs.length = n := hl
    apply List.ext_getElem?
    intro j
    by_cases hj : j < n
    · obtain ⟨y, hy⟩ : ∃ y, (enc x)[j]? = some y := ⟨_, List.getElem?_eq_getElem (by rw [hlen]; exact hj)⟩
      obtain ⟨u, hu⟩ : ∃ u, cs[j]? = some u := ⟨_, List.getElem?_eq_getElem (by omega)⟩
      obtain ⟨v, hv, he⟩ := get x j y hy
      rw [hu, hv, val_eq' he (hp j y u hy hu)]
    · rw [List.getElem?_eq_none (by omega), List.getElem?_eq_none (by rw [hn]; omega)]
theorem all2_build {α : Type} {r : α → List Value → Prop} {g : Nat → List Value} : ∀ (xs : List α) (k0 : Nat), (∀ (k : Nat) (x : α), xs[k]? = some x → r x (g (k0 + k))) → All2 r xs ((List.range' k0 xs.length).flatMap g)
  | [], k0, _ => rfl
  | x :: xs, k0, h => by
    refine ⟨g k0, (List.range' (k0 + 1) xs.length).flatMap g, by simp [List.range'_succ], h 0 x rfl, all2_build xs (k0 + 1) fun k y hk => ?_⟩
    have := h (k + 1) y (by simpa using hk)
    rwa [show k0 + (k + 1) = k0 + 1 + k by omega] at this
theorem flatMap_get {g : Nat → List Value} {n : Nat} (hg : ∀ k, (g k).length = n) : ∀ (m k0 j : Nat) (u : Value), ((List.range' k0 m).flatMap g)[j]? = some u → ∃ k i, k < m ∧ i < n ∧ j = k * n + i ∧ (g (k0 + k))[i]? = some u
  | 0, k0, j, u, h => by simp at h
  | m + 1, k0, j, u, h => by
    rw [List.range'_succ, List.flatMap_cons, List.getElem?_append, hg] at h
    split at h
    · rename_i hlt
      exact ⟨0, j, by omega, hlt, by simp, by simpa using h⟩
    · rename_i hge
      obtain ⟨k, i, h1, h2, h3, h4⟩ := flatMap_get hg m (k0 + 1) (j - n) u h
      refine ⟨k + 1, i, by omega, h2, by rw [Nat.add_mul]; omega, ?_⟩
      rwa [show k0 + (k + 1) = k0 + 1 + k by omega]
section
variable {α : Type} {R : Rep α} {enc : α → List AV} {W : World} {F : Nat → Prop} {xs : List α} {v : Value}
theorem Enc.sl (E : Enc R enc) (h : SliceAt R W F xs v) : PRel W F (.sl (xs.map enc)) v := by
  obtain ⟨A, c, rfl, hc, hm, h3⟩ := h
  have hlen : (xs.map enc).length = xs.length := by simp
  have get : ∀ (k : Nat) (cs : List AV), (xs.map enc)[k]? = some cs → ∃ x, xs[k]? = some x ∧ enc x = cs := fun k cs hk => by
    rw [List.getElem?_map] at hk
    cases hx : xs[k]? with
    | none => rw [hx] at hk; cases hk
    | some x => rw [hx] at hk; exact ⟨x, rfl, by simpa using hk⟩
  by_cases hp : 0 < xs.length
  · obtain ⟨b, off, rfl, hF, hb, cells, ha, hcell⟩ := h3 hp
    have key := PRel.sl (W := W) (F := F) (xs.map enc) (some ⟨b, off, none⟩) c R.n b off (fun k j => cells.getD (k * R.n + j) undef) (by simpa using hc) hm (fun _ => ⟨rfl, hF, hb⟩) (fun k cs hk => by
        obtain ⟨x, _, rfl⟩ := get k cs hk
        exact E.len x) (fun k cs j y hk hj => by
        obtain ⟨x, _, rfl⟩ := get k cs hk
        exact E.one x y (List.mem_of_getElem? hj)) (fun k cs j y hk hj => ?_) (fun k cs j y hk hj => ?_)
    · rw [hlen] at key
      exact key
    · obtain ⟨x, hx, rfl⟩ := get k cs hk
      obtain ⟨cs, hr, hg⟩ := ha.get (fun _ _ => R.len) hx
      obtain ⟨u, hu⟩ : ∃ u, cs[j]? = some u := ⟨_, List.getElem?_eq_getElem (by rw [R.len hr, ← E.len x]; exact (List.getElem?_eq_some_iff.1 hj).1)⟩
      have : cells.getD (k * R.n + j) undef = u := by rw [List.getD_eq_getElem?_getD, hg j u hu]; rfl
      rw [this]
      exact E.to hr j y u hj hu
    · obtain ⟨x, hx, rfl⟩ := get k cs hk
      obtain ⟨cs, hr, hg⟩ := ha.get (fun _ _ => R.len) hx
      obtain ⟨u, hu⟩ : ∃ u, cs[j]? = some u := ⟨_, List.getElem?_eq_getElem (by rw [R.len hr, ← E.len x]; exact (List.getElem?_eq_some_iff.1 hj).1)⟩
      have : cells.getD (k * R.n + j) undef = u := by rw [List.getD_eq_getElem?_getD, hg j u hu]; rfl
      rw [this]
      exact hcell _ u (hg j u hu)
  · obtain rfl : xs = [] := List.eq_nil_of_length_eq_zero (by omega)
    exact .sl [] A c 0 0 0 (fun _ _ => undef) (Nat.zero_le _) hm (fun h => absurd h (Nat.lt_irrefl _)) (by simp) (by simp) (by simp) (by simp)
theorem Enc.slice_of (E : Enc R enc) (h0 : 0 < R.n) (h : PRel W F (.sl (xs.map enc)) v) : SliceAt R W F xs v := by
  cases h with
  | sl _ A c m b off cell hc hm hA hl hone hr hw =>
    have hlen : (xs.map enc).length = xs.length := by simp
    rw [hlen] at hc hA ⊢
    refine ⟨A, c, rfl, hc, hm, fun hp => ?_⟩
    obtain ⟨rfl, hF, hb⟩ := hA hp
    have get : ∀ (k : Nat) (x : α), xs[k]? = some x → (xs.map enc)[k]? = some (enc x) := fun k x hk => by rw [List.getElem?_map, hk]; rfl
    have hmn : m = R.n := by
      have h1 := get 0 _ (List.getElem?_eq_getElem hp)
      rw [← hl 0 _ h1, E.len]
    subst hmn
    let g : Nat → List Value := fun k => (List.range R.n).map (cell k)
    have hg : ∀ k, (g k).length = R.n := fun k => by simp [g]
    have gget : ∀ (k i : Nat), i < R.n → (g k)[i]? = some (cell k i) := fun k i hi => by simp [g, hi]
    refine ⟨b, off, rfl, hF, hb, (List.range' 0 xs.length).flatMap g, all2_build xs 0 fun k x hk => ?_, fun j u hj => ?_⟩
    · rw [Nat.zero_add]
      refine E.of (hg k) fun j y u hj hu => ?_
      have hlt : j < R.n := by rw [← E.len x]; exact (List.getElem?_eq_some_iff.1 hj).1
      rw [gget k j hlt] at hu
      obtain rfl := Option.some.inj hu
      exact hr k _ j y (get k x hk) hj
    · obtain ⟨k, i, h1, h2, rfl, h4⟩ := flatMap_get hg _ _ _ _ hj
      rw [Nat.zero_add, gget k i h2] at h4
      obtain rfl := Option.some.inj h4
      obtain ⟨x, hx⟩ : ∃ x, xs[k]? = some x := ⟨_, List.getElem?_eq_getElem h1⟩
      exact hw k _ i _ (get k x hx) (List.getElem?_eq_getElem (by rw [E.len]; exact h2))
theorem Enc.slice (E : Enc R enc) (h0 : 0 < R.n) : Enc R.slice (fun l => [.sl (l.map enc)]) := by
  refine ⟨fun _ => rfl, fun x y hy => ?_, fun {W F x cs} hr j y u hj hu => ?_, fun {W F x cs} hl hp => ?_⟩
  · obtain rfl := List.mem_singleton.1 hy
    rfl
  · obtain ⟨v, rfl, hs⟩ := hr
    cases j with
    | zero =>
      obtain rfl := Option.some.inj hj
      obtain rfl := Option.some.inj hu
      exact E.sl hs
    | succ j => simp at hj
  · obtain ⟨u, rfl⟩ := List.length_eq_one_iff.1 (show cs.length = 1 from hl)
    exact ⟨u, rfl, E.slice_of h0 (hp 0 _ u rfl rfl)⟩
end
theorem u8_enc : Enc u8R (fun c => [.y c]) := Enc.plain fun _ => rfl
theorem bytes_to {W : World} {F : Nat → Prop} {l : List UInt8} {v : Value} (h : SliceAt u8R W F l v) : PRel W F (.sl (byteEls l)) v := u8_enc.sl h
theorem bytes_of {W : World} {F : Nat → Prop} {l : List UInt8} {v : Value} (h : PRel W F (.sl (byteEls l)) v) : SliceAt u8R W F l v := u8_enc.slice_of (by show 0 < 1; omega) h
/-- An aggregate of so many cells. -/
theorem PRel.agg_inv {W : World} {F : Nat → Prop} {cs : List AV} {v : Value} (h : PRel W F (.agg cs) v) : ∃ vs : List Value, v = .agg vs.toArray ∧ vs.length = cs.length ∧ ∀ (j : Nat) (x : AV) (u : Value), cs[j]? = some x → vs[j]? = some u → PRel W F x u := by
  cases h with
  | agg _ vs hl h1 hr => exact ⟨vs, rfl, hl, hr⟩
theorem all_one {cs : List AV} (h : cs.all AV.one = true) : ∀ (j : Nat) (x : AV), cs[j]? = some x → x.one = true := fun j x hj => List.all_eq_true.1 h x (List.mem_of_getElem? hj)
section
variable {P : Program} {f : FuncId} {x y : AV} {r : AV}
/-- A contract over one argument. -/
theorem PDoes.mk1 (hf : ∃ fn c, P.funcs[f]? = some fn ∧ fn.body = some c ∧ (fn.name == "runtime.NumGoroutine") = false) (h : ∀ (W : World) (F : Nat → Prop) (v : Value), PRel W F x v → (∀ b, F b → b < W.heap.size) →
    Calls P f #[v] W fun e W' => ∃ v, e = .returned v ∧ Kp No W W' ∧ PRel W' (fun b => F b ∨ (W.heap.size ≤ b ∧ b < W'.heap.size)) r v) : PDoes P f [x] r :=
  ⟨hf, fun W F vs hl hv hF => by
    match vs, hl with
    | [v], _ => exact h W F v (hv 0 _ _ rfl rfl) hF⟩
theorem PDoes.mk2 (hf : ∃ fn c, P.funcs[f]? = some fn ∧ fn.body = some c ∧ (fn.name == "runtime.NumGoroutine") = false) (h : ∀ (W : World) (F : Nat → Prop) (v u : Value), PRel W F x v → PRel W F y u → (∀ b, F b → b < W.heap.size) →
    Calls P f #[v, u] W fun e W' => ∃ v, e = .returned v ∧ Kp No W W' ∧ PRel W' (fun b => F b ∨ (W.heap.size ≤ b ∧ b < W'.heap.size)) r v) : PDoes P f [x, y] r :=
  ⟨hf, fun W F vs hl hv hF => by
    match vs, hl with
    | [v, u], _ => exact h W F v u (hv 0 _ _ rfl rfl) (hv 1 _ _ rfl rfl) hF⟩
theorem PDoes.mk0 (hf : ∃ fn c, P.funcs[f]? = some fn ∧ fn.body = some c ∧ (fn.name == "runtime.NumGoroutine") = false) (h : ∀ (W : World), Calls P f #[] W fun e W' => ∃ v, e = .returned v ∧ Kp No W W' ∧ PRel W' (fun b => W.heap.size ≤ b ∧ b < W'.heap.size) r v) : PDoes P f [] r :=
  ⟨hf, fun W F vs hl hv hF => by
    match vs, hl with
    | [], _ => exact (h W).mono fun e W' ⟨v, h1, h2, h3⟩ => ⟨v, h1, h2, h3.to fun b hb => .inr hb⟩⟩
theorem PRel.new {W W' : World} {F : Nat → Prop} {x : AV} {v : Value} (h : PRel W' (From W.heap.size) x v) : PRel W' (fun b => F b ∨ (W.heap.size ≤ b ∧ b < W'.heap.size)) x v := h.keep (fun _ _ _ => rfl) fun b hb hlt => .inr ⟨hb, hlt⟩
theorem PRel.tup2 {W : World} {F : Nat → Prop} {x y : AV} {v u : Value} (h1 : PRel W F x v) (h2 : PRel W F y u) : PRel W F (.tup [x, y]) (.tuple #[v, u]) := .tup [x, y] [v, u] rfl (pw_cons h1 (pw_cons h2 pw_nil))
end
end Go.Proofs.Ytpaldbejnbcokaa.Sm
end
section
namespace Go.Proofs.Ytpaldbejnbcokaa.Sm
open Go.RowKit Go.WideShapes Go.ChangeShapes Go.Deep
set_option linter.unusedVariables false
set_option linter.unusedSimpArgs false

/-- Cells that read as data, one by one. -/
structure PWs (W : World) (F : Nat → Prop) (xs : List AV) (cs : List Value) : Prop where
  len : cs.length = xs.length
  one : ∀ (j : Nat) (x : AV), xs[j]? = some x → x.one = true
  rel : ∀ (j : Nat) (x : AV) (v : Value), xs[j]? = some x → cs[j]? = some v → PRel W F x v
theorem PRel.one_cell {W : World} {F : Nat → Prop} {x : AV} {v : Value} (h : PRel W F x v) (h1 : x.one = true) : v.oneCell' = true := by
  cases h <;> first | rfl | exact h1 | (simp [AV.one] at h1; done)
theorem PRel.widen {W : World} {F F' : Nat → Prop} {x : AV} {v : Value} (h : PRel W F x v) (hF : ∀ b, b < W.heap.size → F b → F' b) : PRel W F' x v := h.keep (fun _ _ _ => rfl) fun b hb hlt => hF b hlt hb
theorem PWs.single {W : World} {F : Nat → Prop} {x : AV} {v : Value} (h : PRel W F x v) (h1 : x.one = true) : PWs W F [x] [v] := by
  refine ⟨rfl, fun j y hj => ?_, fun j y u hj hu => ?_⟩
  · cases j with
    | zero => obtain rfl := Option.some.inj hj; exact h1
    | succ j => simp at hj
  · cases j with
    | zero => obtain rfl := Option.some.inj hj; obtain rfl := Option.some.inj hu; exact h
    | succ j => simp at hj
theorem PWs.nil {W : World} {F : Nat → Prop} {cs : List Value} {n : Nat} (h : cs.length = n) : PWs W F [] (cs.drop n) :=
  ⟨by simp [h], fun j x hj => by simp at hj, fun j x v hj _ => by simp at hj⟩
theorem PWs.join {W : World} {F : Nat → Prop} {xs ys : List AV} {cs : List Value} {o n : Nat} (h : PWs W F xs ((cs.drop o).take n)) (hn : xs.length = n) (h' : PWs W F ys (cs.drop (o + n))) : PWs W F (xs ++ ys) (cs.drop o) := by
  have hl := h.len
  have hl' := h'.len
  rw [List.length_take, List.length_drop] at hl
  rw [List.length_drop] at hl'
  refine ⟨by simp only [List.length_drop, List.length_append]; omega, fun j x hj => ?_, fun j x v hj hv => ?_⟩
  · rw [List.getElem?_append] at hj
    split at hj
    · exact h.one j x hj
    · exact h'.one _ x hj
  · rw [List.getElem?_append] at hj
    split at hj
    · rename_i hlt
      refine h.rel j x v hj ?_
      rw [List.getElem?_take, if_pos (by omega)]
      exact hv
    · rename_i hge
      refine h'.rel _ x v hj ?_
      rw [List.getElem?_drop] at hv ⊢
      rw [← hv]
      congr 1
      omega
theorem PWs.all {W : World} {F : Nat → Prop} {xs : List AV} {cs : List Value} (h : PWs W F xs (cs.drop 0)) : PWs W F xs cs := by rwa [List.drop_zero] at h

/-- What reads as data of type t reads as abstract values of this kind. -/
structure ReadA {α : Type} (P : Program) (t : TypeId) (n : Nat) (enc : α → List AV) : Prop where
  len : ∀ a, (enc a).length = n
  one : ∀ a, ∀ y ∈ enc a, y.one = true
  read : ∀ (H : Type) (e : TypeId × Value → H) (w : World) (base : Nat) (spare : Nat → Bool) (held : Bool) (fuel : Nat) (cs : List Value) (x : DataW H × List MemPlace),
    DataW.trod e P w base spare held fuel t cs = some x → ∃ a : α, PWs w (fun b => b < w.heap.size) (enc a) cs

def avR {α : Type} (n : Nat) (enc : α → List AV) (hn : ∀ a, (enc a).length = n) (h1 : ∀ a, ∀ y ∈ enc a, y.one = true) : Rep α where
  n := n
  rel := fun W F x cs => PWs W F (enc x) cs
  len := fun h => by rw [h.len]; exact hn _
  one := fun {w F x cs} h u hu => by
    obtain ⟨j, hj⟩ := List.getElem?_of_mem hu
    obtain ⟨y, hy⟩ : ∃ y, (enc x)[j]? = some y := ⟨_, List.getElem?_eq_getElem (by rw [← h.len]; exact (List.getElem?_eq_some_iff.1 hj).1)⟩
    exact (h.rel j y u hy hj).one_cell (h.one j y hy)
  keep := fun h hk => ⟨h.len, h.one, fun j x v hj hv => (h.rel j x v hj hv).keep hk fun b hb _ => hb⟩
  mono := fun h hF => ⟨h.len, h.one, fun j x v hj hv => (h.rel j x v hj hv).widen hF⟩
theorem avR_enc {α : Type} {n : Nat} {enc : α → List AV} (hn : ∀ a, (enc a).length = n) (h1 : ∀ a, ∀ y ∈ enc a, y.one = true) : Enc (avR n enc hn h1) enc :=
  ⟨hn, h1, fun h j y u hj hu => h.rel j y u hj hu, fun {W F x cs} hl h => ⟨by rw [hl, hn]; rfl, fun j y hj => h1 x y (List.mem_of_getElem? hj), fun j y v hj hv => h j y v hj hv⟩⟩
section
variable {P : Program} {t : TypeId}
theorem ReadA.readable {α : Type} {n : Nat} {enc : α → List AV} (h : ReadA P t n enc) : Readable P t (avR n enc h.len h.one) := fun H e w base spare held fuel cs x hx => h.read H e w base spare held fuel cs x hx
theorem ReadA.of {α : Type} {R : Rep α} {enc : α → List AV} (E : Enc R enc) (h : Readable P t R) : ReadA P t R.n enc :=
  ⟨E.len, E.one, fun H e w base spare held fuel cs x hx => by
    obtain ⟨a, ha⟩ := h H e w base spare held fuel cs x hx
    exact ⟨a, by rw [R.len ha, E.len], fun j y hj => E.one a y (List.mem_of_getElem? hj), fun j y v hj hv => E.to ha j y v hj hv⟩⟩
theorem ReadA.slice {α : Type} {e : TypeId} {n : Nat} {enc : α → List AV} (h : ReadA P e n enc) (ht : P.underlying t = some (.slice e)) (hn : P.cellsOf e = n) (h0 : 0 < n) : ReadA P t 1 (fun l : List α => [.sl (l.map enc)]) :=
  .of (R := (avR n enc h.len h.one).slice) ((avR_enc h.len h.one).slice h0) (h.readable.slice ht hn h0)
theorem ReadA.i64 (ht : P.underlying t = some (.int .i64)) : ReadA P t 1 (fun x : UInt64 => [.i .i64 (i64of x)]) :=
  ⟨fun _ => rfl, fun _ y hy => by obtain rfl := List.mem_singleton.1 hy; rfl, fun H e w base spare held fuel cs x hx => by
    obtain ⟨n, rfl, _, hw⟩ := DataW.trod_int ht hx
    refine ⟨UInt64.ofInt n, ?_⟩
    have hn := wf_i64 hw
    rw [i64of_ofInt n hn.1 hn.2]
    exact .single (.i _ _) rfl⟩
theorem ReadA.u64 (ht : P.underlying t = some (.int .u64)) : ReadA P t 1 (fun x : UInt64 => [.u x]) :=
  ⟨fun _ => rfl, fun _ y hy => by obtain rfl := List.mem_singleton.1 hy; rfl, fun H e w base spare held fuel cs x hx => by
    obtain ⟨n, rfl, _, hw⟩ := DataW.trod_int ht hx
    obtain ⟨y, rfl⟩ := wf_u64 hw
    exact ⟨y, .single (.u _) rfl⟩⟩
theorem ReadA.u8 (ht : P.underlying t = some (.int .u8)) : ReadA P t 1 (fun x : UInt8 => [.y x]) :=
  ⟨fun _ => rfl, fun _ y hy => by obtain rfl := List.mem_singleton.1 hy; rfl, fun H e w base spare held fuel cs x hx => by
    obtain ⟨n, rfl, _, hw⟩ := DataW.trod_int ht hx
    obtain ⟨y, rfl⟩ := wf_u8 hw
    exact ⟨y, .single (.y _) rfl⟩⟩
theorem ReadA.bool (ht : P.underlying t = some .bool) : ReadA P t 1 (fun x : Bool => [.b x]) :=
  ⟨fun _ => rfl, fun _ y hy => by obtain rfl := List.mem_singleton.1 hy; rfl, fun H e w base spare held fuel cs x hx => by
    obtain ⟨b, rfl, _⟩ := DataW.trod_bool ht hx
    exact ⟨b, .single (.b _) rfl⟩⟩
theorem ReadA.str (ht : P.underlying t = some .string) : ReadA P t 1 (fun x : List UInt8 => [.s x]) :=
  ⟨fun _ => rfl, fun _ y hy => by obtain rfl := List.mem_singleton.1 hy; rfl, fun H e w base spare held fuel cs x hx => by
    obtain ⟨s, rfl, _⟩ := DataW.trod_string ht hx
    exact ⟨s.data.toList, .single (.s s.data.toList) rfl⟩⟩
/-- A struct's field. -/
theorem ReadA.part {α : Type} {ty n off : Nat} {enc : α → List AV} (h : ReadA P ty n enc) {H : Type} {e : TypeId × Value → H} {w : World} {base : Nat} {spare : Nat → Bool} {held : Bool} {cs : List Value} {m : Nat}
    (hp : ∃ y, DataW.trod e P w base spare held m ty ((cs.drop off).take n) = some y) : ∃ a : α, PWs w (fun b => b < w.heap.size) (enc a) ((cs.drop off).take n) := by
  obtain ⟨y, hy⟩ := hp
  exact h.read H e w base spare held m _ y hy

theorem array_part {n : Nat} {el : TypeId} (ht : P.underlying t = some (.array n el)) {H : Type} {e : TypeId × Value → H} {w : World} {base : Nat} {spare : Nat → Bool} {held : Bool} {fuel : Nat} {cs : List Value} {x : DataW H × List MemPlace}
    (hx : DataW.trod e P w base spare held fuel t cs = some x) : ∃ m, cs.length = P.cellsOf t ∧ ∀ (j off k : Nat), j < n → P.cellsOf el = k → j * k = off → ∃ y, DataW.trod e P w base spare held m el ((cs.drop off).take k) = some y := by
  obtain ⟨xs, m, _, _, hl, hxs, hf⟩ := DataW.trod_array ht hx
  refine ⟨m, hl, fun j off k hj hk ho => ?_⟩
  have h := hf j hj
  subst hk ho
  exact ⟨xs[j]'(by omega), by rw [h, List.getElem?_eq_getElem (by omega)]⟩

/-! ### Arguments -/
variable {H : Type} {e : TypeId × Value → H} {W : World} {base b0 : Nat} {spare : Nat → Bool} {held : Bool} {v : Value} {d : DataW H} {p : List MemPlace}
theorem ReadA.arg_struct {α : Type} {n : Nat} {enc : α → List AV} (h : ReadA P t n enc) {fs : Array Field} (ht : P.underlying t = some (.struct fs)) (ho : Value.okWide P W .any b0 t v) (hd : DataW.Trod e P W base spare held t v d p) :
    ∃ a : α, PRel W (fun b => b < W.heap.size) (.agg (enc a)) v := by
  obtain ⟨cs, rfl, hs⟩ := okWide_struct ht ho
  obtain ⟨fuel, hf⟩ := hd
  obtain ⟨a, ha⟩ := h.read H e W base spare held fuel _ _ hf
  have hc : (Value.cells (.agg cs)).toList = cs.toList := by simp [Value.cells]
  rw [hc] at ha
  refine ⟨a, ?_⟩
  have := PRel.agg (W := W) (F := fun b => b < W.heap.size) (enc a) cs.toList ha.len ha.one ha.rel
  simpa using this
theorem ReadA.arg_one {α : Type} {g : α → AV} (h : ReadA P t 1 (fun a => [g a])) (hc : v.cells.toList = [v]) (hd : DataW.Trod e P W base spare held t v d p) :
    ∃ a : α, PRel W (fun b => b < W.heap.size) (g a) v := by
  obtain ⟨fuel, hf⟩ := hd
  obtain ⟨a, ha⟩ := h.read H e W base spare held fuel _ _ hf
  rw [hc] at ha
  exact ⟨a, ha.rel 0 _ v rfl rfl⟩
theorem ReadA.arg_slice {α : Type} {el : TypeId} {g : α → AV} (h : ReadA P t 1 (fun a => [g a])) (ht : P.underlying t = some (.slice el)) (ho : Value.okWide P W .any b0 t v) (hd : DataW.Trod e P W base spare held t v d p) :
    ∃ a : α, PRel W (fun b => b < W.heap.size) (g a) v := by
  obtain ⟨a, len, cap, rfl⟩ := okWide_slice ht ho
  exact h.arg_one (by simp [Value.cells]) hd
theorem ReadA.arg_int {α : Type} {k : IntKind} {g : α → AV} (h : ReadA P t 1 (fun a => [g a])) (ht : P.underlying t = some (.int k)) (ho : Value.okWide P W .any b0 t v) (hd : DataW.Trod e P W base spare held t v d p) :
    ∃ a : α, PRel W (fun b => b < W.heap.size) (g a) v := by
  obtain ⟨n, rfl⟩ := okWide_int ht ho
  exact h.arg_one (by simp [Value.cells]) hd
theorem ReadA.arg_bool {α : Type} {g : α → AV} (h : ReadA P t 1 (fun a => [g a])) (ht : P.underlying t = some .bool) (ho : Value.okWide P W .any b0 t v) (hd : DataW.Trod e P W base spare held t v d p) :
    ∃ a : α, PRel W (fun b => b < W.heap.size) (g a) v := by
  obtain ⟨n, rfl⟩ := okWide_bool ht ho
  exact h.arg_one (by simp [Value.cells]) hd
theorem ReadA.arg_str {α : Type} {g : α → AV} (h : ReadA P t 1 (fun a => [g a])) (ht : P.underlying t = some .string) (ho : Value.okWide P W .any b0 t v) (hd : DataW.Trod e P W base spare held t v d p) :
    ∃ a : α, PRel W (fun b => b < W.heap.size) (g a) v := by
  obtain ⟨n, rfl⟩ := okWide_string ht ho
  exact h.arg_one (by simp [Value.cells]) hd
/-- A slice argument, and what the reach says of its length. -/
theorem ReadA.arg_sized {α : Type} {el : TypeId} {n : Nat} {enc : α → List AV} (h : ReadA P el n enc) (ht : P.underlying t = some (.slice el)) (hn : P.cellsOf el = n) (h0 : 0 < n)
    {ts : List TypeId} {ds : List (DataW H)} (hsz : (DataW.weightsEach P ts ds).all (· ≤ reachBytes) = true) (j : Nat) (hj : ts[j]? = some t) (hd : ds[j]? = some d)
    (ho : Value.okWide P W .any b0 t v) (hr : DataW.Trod e P W base spare held t v d p) :
    ∃ l : List α, PRel W (fun b => b < W.heap.size) (.sl (l.map enc)) v ∧ l.length * P.bytesOf el ≤ 140737488355328 := by
  obtain ⟨l, hs, hb⟩ := (h.readable.slice ht hn h0).arg_reach ht hsz j hj hd ho hr
  exact ⟨l, (avR_enc h.len h.one).sl hs, hb⟩

/-- From the contract of a law to its row. -/
theorem PDoes.law {f : FuncId} {args : List AV} {vs : List Value} (h : PDoes P f args (.b true)) (hl : vs.length = args.length)
    (hv : ∀ (j : Nat) (x : AV) (v : Value), args[j]? = some x → vs[j]? = some v → PRel W (fun b => b < W.heap.size) x v) : Calls P f vs.toArray W fun e W' => e = .returned (.bool true) ∧ Kp No W W' := by
  refine (h.calls W (fun b => b < W.heap.size) vs hl hv fun _ hb => hb).mono ?_
  rintro e W' ⟨v, rfl, hk, hr⟩
  cases hr
  exact ⟨rfl, hk⟩
end
theorem i64_next {k n : Nat} (h : k < n) (hn : n ≤ 9223372036854775807) : AV.i .i64 (IntKind.i64.wrap ((k : Int) + 1)) = .i .i64 ((k + 1 : Nat) : Int) := by
  rw [show IntKind.i64.wrap ((k : Int) + 1) = (k : Int) + 1 by rw [IntKind.wrap_i64]; omega]
  rfl
end Go.Proofs.Ytpaldbejnbcokaa.Sm
end
