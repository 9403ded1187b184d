/- From the form's reading of arguments to the representations of these proofs. No function of the program. -/
import Derived.Test.YtpaldbejnbcokaaNum
import Derived.Deep.Slices
import Derived.Deep.Fields
import Derived.ChangeSame
import Derived.ProofKit
import Derived.OpenShut
namespace Go.Proofs.Ytpaldbejnbcokaa
open Go.RowKit Go.WideShapes Go.ChangeShapes Go.Deep

/-- What reads as data of type t reads as R says. -/
def Readable {α : Type} (P : Program) (t : TypeId) (R : Rep α) : Prop :=
  ∀ (H : Type) (enc : TypeId × Value → H) (w : World) (base : Nat) (spare : Nat → Bool) (held : Bool) (fuel : Nat) (cs : List Value) (x : DataW H × List MemPlace),
    DataW.trod enc P w base spare held fuel t cs = some x → ∃ a : α, R.rel w (fun b => b < w.heap.size) a cs

/-- Elements one by one, all together. -/
theorem all2_collect {α : Type} {r : α → List Value → Prop} {n : Nat} (hn : ∀ x c, r x c → c.length = n) (w : World) (b off : Nat) : ∀ (len : Nat),
    (∀ i, i < len → ∃ x c, r x c ∧ ∀ j u, c[j]? = some u → w.cell? ⟨b, off + (i * n + j), none⟩ = some u) →
    ∃ xs cells, xs.length = len ∧ All2 r xs cells ∧ ∀ j u, cells[j]? = some u → w.cell? ⟨b, off + j, none⟩ = some u
  | 0, _ => ⟨[], [], rfl, rfl, by simp⟩
  | len + 1, h => by
    obtain ⟨xs, cells, h1, h2, h3⟩ := all2_collect hn w b off len fun i hi => h i (by omega)
    obtain ⟨x, c, hr, hc⟩ := h len (by omega)
    refine ⟨xs ++ [x], cells ++ c, by simp [h1], h2.snoc hr, fun j u hu => ?_⟩
    have hl := h2.length hn
    rw [h1] at hl
    rw [List.getElem?_append] at hu
    split at hu
    · exact h3 j u hu
    · have := hc _ u hu
      rwa [hl, show off + (len * n + (j - len * n)) = off + j by omega] at this

theorem Readable.slice {α : Type} {P : Program} {t e : TypeId} {R : Rep α} (hR : Readable P e R) (ht : P.underlying t = some (.slice e)) (hn : P.cellsOf e = R.n) (h0 : 0 < R.n) : Readable P t R.slice := by
  intro H enc w base spare held fuel cs x hx
  rcases open_slice ht hx with ⟨rfl, _⟩ | ⟨a, len, cap, m, n, D, Pl, rfl, _, hlc, hcm, hm, _, hel⟩
  · exact ⟨[], _, rfl, SliceAt.nil _ _ _⟩
  · have hlm : len ≤ m := by rw [hm]; split <;> omega
    by_cases hp : 0 < len
    · have hspot : a = ⟨a.block, a.off, none⟩ ∧ a.block < w.heap.size := by
        obtain ⟨cs', hc, _⟩ := hel 0 (by omega)
        obtain ⟨_, hl, hat⟩ := World.cells?_some hc
        have h1 := hat 0 (by rw [hn]; exact h0)
        have e : (a.add (0 * P.cellsOf e)).add 0 = a := by simp [Addr.add]
        rw [e, List.getElem?_eq_getElem (by rw [hl, hn]; exact h0)] at h1
        refine ⟨?_, World.block_lt_of_cell? w a h1⟩
        unfold World.cell? at h1
        split at h1
        · split at h1
          · cases h1
          · rename_i hs
            obtain ⟨ab, ao, as⟩ := a
            cases as with
            | none => rfl
            | some k => simp at hs
        · cases h1
      obtain ⟨xs, cells, h1, h2, h3⟩ := all2_collect (r := R.rel w (fun b => b < w.heap.size)) (n := R.n) (fun _ _ => R.len) w a.block a.off len fun i hi => by
        obtain ⟨cs', hc, ht'⟩ := hel i (by omega)
        obtain ⟨y, hy⟩ := hR H enc w base spare held n cs' _ ht'
        obtain ⟨_, hl, hat⟩ := World.cells?_some hc
        refine ⟨y, cs', hy, fun j u hu => ?_⟩
        have hj : j < P.cellsOf e := by have := (List.getElem?_eq_some_iff.1 hu).1; omega
        have := hat j hj
        rw [hu, hn, hspot.1] at this
        rw [show ((⟨a.block, a.off, none⟩ : Addr).add (i * R.n)).add j = ⟨a.block, a.off + (i * R.n + j), none⟩ by
          unfold Addr.add
          by_cases h1 : i * R.n = 0 <;> by_cases h2 : j = 0 <;> simp [h1, h2, Nat.add_assoc]] at this
        exact this
      exact ⟨xs, _, rfl, some a, cap, by rw [h1], by omega, hcm, fun _ => ⟨a.block, a.off, by rw [← hspot.1], hspot.2, hspot.2, cells, h2, h3⟩⟩
    · obtain rfl : len = 0 := by omega
      exact ⟨[], _, rfl, some a, cap, rfl, Nat.zero_le _, hcm, fun h => absurd h (Nat.lt_irrefl _)⟩

/-- A struct's fields, each with its own cells. -/
theorem struct_part {P : Program} {t : TypeId} {fs : Array Field} (ht : P.underlying t = some (.struct fs)) {H : Type} {enc : TypeId × Value → H} {w : World} {base : Nat} {spare : Nat → Bool} {held : Bool} {fuel : Nat} {cs : List Value} {x : DataW H × List MemPlace}
    (hx : DataW.trod enc P w base spare held fuel t cs = some x) : ∃ m, cs.length = P.cellsOf t ∧ ∀ (j ty off n : Nat), (fs[j]?).map (fun f => (f.type, f.offset)) = some (ty, off) → P.cellsOf ty = n →
      ∃ y, DataW.trod enc P w base spare held m ty ((cs.drop off).take n) = some y := by
  obtain ⟨xs, n, _, _, hl, hxs, hf⟩ := DataW.trod_struct ht hx
  refine ⟨n, hl, fun j ty off k hj hk => ?_⟩
  cases hfj : fs[j]? with
  | none => rw [hfj] at hj; cases hj
  | some f =>
    rw [hfj] at hj
    simp only [Option.map_some, Option.some.injEq, Prod.mk.injEq] at hj
    have h := hf j f hfj
    rw [hj.1, hj.2, hk] at h
    have hlt : j < xs.length := by rw [hxs]; exact (Array.getElem?_eq_some_iff.1 hfj).1
    exact ⟨xs[j], by rw [h, List.getElem?_eq_getElem hlt]⟩
theorem wf_i64 {n : Int} (h : (Lit.int .i64 n).wf = true) : IsInt n := by
  have : -9223372036854775808 ≤ n ∧ n ≤ 9223372036854775807 := by simpa [Lit.wf, IntKind.min, IntKind.max, IntKind.signed, IntKind.bits] using h
  exact this
theorem wf_u64 {n : Int} (h : (Lit.int .u64 n).wf = true) : ∃ x : UInt64, n = x.toNat := by
  have h : 0 ≤ n ∧ n ≤ 18446744073709551615 := by simpa [Lit.wf, IntKind.min, IntKind.max, IntKind.signed, IntKind.bits] using h
  exact ⟨UInt64.ofNat n.toNat, by rw [← u64_small (by omega)]; omega⟩
theorem wf_u8 {n : Int} (h : (Lit.int .u8 n).wf = true) : ∃ x : UInt8, n = x.toNat := by
  have h : 0 ≤ n ∧ n ≤ 255 := by simpa [Lit.wf, IntKind.min, IntKind.max, IntKind.signed, IntKind.bits] using h
  exact ⟨UInt8.ofNat n.toNat, by rw [UInt8.toNat_ofNat']; omega⟩
theorem readable_u8 {P : Program} {t : TypeId} (ht : P.underlying t = some (.int .u8)) : Readable P t u8R := by
  intro H enc w base spare held fuel cs x hx
  obtain ⟨n, rfl, _, hw⟩ := DataW.trod_int ht hx
  obtain ⟨y, rfl⟩ := wf_u8 hw
  exact ⟨y, rfl⟩
/-- A slice argument. -/
theorem Readable.arg {α : Type} {P : Program} {t e : TypeId} {R : Rep α} (hR : Readable P t R.slice) (ht : P.underlying t = some (.slice e)) {H : Type} {enc : TypeId × Value → H} {W : World} {base b0 : Nat} {spare : Nat → Bool} {held : Bool} {v : Value} {d : DataW H} {p : List MemPlace}
    (ho : Value.okWide P W .any b0 t v) (h : DataW.Trod enc P W base spare held t v d p) : ∃ xs : List α, SliceAt R W (fun b => b < W.heap.size) xs v := by
  obtain ⟨a, len, cap, rfl⟩ := okWide_slice ht ho
  obtain ⟨fuel, hf⟩ := h
  obtain ⟨xs, v', hv, hs⟩ := hR H enc W base spare held fuel _ _ hf
  have e : v' = .slice a len cap := by simpa [Value.cells] using hv.symm
  exact ⟨xs, e ▸ hs⟩

section
variable {H : Type} {enc : TypeId × Value → H} {P : Program}
/-- The row's last step, of a call that left all that was there as it was (after the guide's post_of_below). -/
theorem post_of_below {f : Func} {s : ChangeSpec} {apart fresh handsOn again : Bool} {W W' : World} {args : Array Value} {v : Value} {ds gs : List (DataW H)} {before pa pv : List MemPlace}
    (hW : DataW.Whole enc P f.params.toList s.vars apart W args.toList ds gs before)
    (hres : ∀ (b : Nat) (sp : Nat → Bool) (hd : Bool), DataW.TrodAll enc P W' b sp hd f.resultTypes.toList (v.resultList f.resultTypes.size) (s.fn H (ds ++ gs)).results [])
    (hargs : ∀ sp : Nat → Bool, (∀ p ∈ before, sp p.block = true) → DataW.TrodAll enc P W' 0 sp true f.params.toList args.toList (s.fn H (ds ++ gs)).args pa)
    (hvars : ∀ sp : Nat → Bool, (∀ p ∈ before, sp p.block = true) → DataW.TrodVars enc P W' sp s.vars (s.fn H (ds ++ gs)).vars pv)
    (hps : before = pa ++ pv) (hb : Below W.heap.size W W')
    (hok : ∀ (j : Nat) (t : TypeId) (r : Value), f.resultTypes[j]? = some t → (v.resultList f.resultTypes.size)[j]? = some r → Value.okWide P W' .any 0 t r) :
    s.post enc P f apart fresh handsOn again W args v W' := by
  have hlt : ∀ p ∈ before, p.block < W.heap.size := fun p hp => hW.lt p hp
  have hold : ∀ p ∈ before, (fun b => decide (b < W.heap.size)) p.block = true := fun p hp => by simpa using hlt p hp
  refine ⟨ds, gs, before, [], pa, pv, hW, hres _ _ _, hargs _ hold, hvars _ hold, World.keptBut_mono (fun p hp => ⟨hp, ?_⟩) (hb.frame (· ∈ before)), fun _ => ?_⟩
  · rw [hps, List.mem_append] at hp
    exact Or.inr hp
  · obtain ⟨_, _, _, _, _, hz, hn⟩ := hW
    refine ⟨hok, _, _, ([] ++ pa) ++ pv, ⟨[] ++ pa, pv, trodAll_append (hargs _ (fun _ _ => rfl)) (hres _ _ _), hvars _ (fun _ _ => rfl), rfl, ?_, ?_⟩, ?_⟩
    · intro b off hp
      have hin : MemPlace.cell b off ∈ before := by rw [hps]; simpa using hp
      rw [hb.frozen (hlt _ hin)]
      exact hz b off hin
    · intro ha
      have := hn ha
      rw [hps] at this
      simpa using this
    · intro p hp _
      rw [hps]
      simpa using hp
/-- All arguments read as they did. -/
theorem all_stays (hl : laidOutB P = true) {W W' : World} (hb : Below W.heap.size W W') {sp' : Nat → Bool} : ∀ {ts : List TypeId} {vs : List Value} {ds : List (DataW H)} {ps : List MemPlace},
    (∀ t ∈ ts, P.readableRec t = true ∧ t < P.types.size) → DataW.TrodAll enc P W 0 (fun _ => true) true ts vs ds ps → (∀ p ∈ ps, p.block < W.heap.size) → (∀ p ∈ ps, sp' p.block = true) → DataW.TrodAll enc P W' 0 sp' true ts vs ds ps
  | [], [], [], _, _, h, _, _ => h
  | t :: ts, v :: vs, d :: ds, ps, hr, h, hlt, hs => by
    obtain ⟨p, q, h1, h2, rfl⟩ := h
    refine ⟨p, q, WideElems.Trod_stays hl (hr t (by simp)).1 (hr t (by simp)).2 h1 (fun x hx => hb.same (hlt x (by simp [hx]))) (fun x hx => hs x (by simp [hx])), ?_, rfl⟩
    exact all_stays hl hb (fun t ht => hr t (by simp [ht])) h2 (fun x hx => hlt x (by simp [hx])) (fun x hx => hs x (by simp [hx]))
end

/-- A law's row: for whatever reads, the call returns true and leaves all as it was. -/
theorem law_post {H : Type} {enc : TypeId × Value → H} {P : Program} {F : Nat} {fn : Func} {s : ChangeSpec} (hl : laidOutB P = true) (hv : s.vars = []) (hrt : ∃ b, fn.resultTypes = #[b] ∧ P.underlying b = some .bool)
    (hr : ∀ t ∈ fn.params.toList, P.readableRec t = true ∧ t < P.types.size) {W : World} {args : Array Value} {ds gs : List (DataW H)} {before : List MemPlace}
    (hs : (s.fn H ds).results = [.lit (.bool true)] ∧ (s.fn H ds).args = ds ∧ (s.fn H ds).vars = [])
    (hW : DataW.Whole enc P fn.params.toList s.vars false W args.toList ds gs before)
    (hcalls : Calls P F args W fun e W' => e = .returned (.bool true) ∧ Kp No W W') :
    Calls P F args W fun e W' => ∃ v, e = .returned v ∧ s.post enc P fn false true false false W args v W' := by
  refine hcalls.mono fun e W' ⟨he, hk⟩ => ⟨.bool true, he, ?_⟩
  have hb : Below W.heap.size W W' := hk.below (Nat.le_refl _) fun k _ h => h
  have hlt : ∀ p ∈ before, p.block < W.heap.size := fun p hp => hW.lt p hp
  have hW0 := hW
  obtain ⟨p, q, hA, hV, hpq, hz, hn⟩ := hW0
  rw [hv] at hV
  obtain ⟨rfl, rfl⟩ := trodVars_none hV
  obtain ⟨b, hb1, hb2⟩ := hrt
  rw [List.append_nil] at hpq
  subst hpq
  refine post_of_below (pa := before) (pv := []) hW (fun _ _ _ => ?_) (fun sp hsp => ?_) (fun _ _ => ?_) (by simp) hb ?_
  · rw [List.append_nil, hs.1, hb1]
    exact trodAll_mk1 (shut_bool hb2 _)
  · rw [List.append_nil, hs.2.1]
    exact all_stays hl hb hr hA hlt hsp
  · rw [List.append_nil, hs.2.2, hv]
    rfl
  · rw [hb1]
    intro j t r hj hr
    cases j with
    | zero =>
      have e1 : b = t := by simpa using hj
      have e2 : Value.bool true = r := by simpa [Value.resultList] using hr
      rw [← e1, ← e2]
      exact okWide_bool_mk hb2 _
    | succ j => simp at hj
end Go.Proofs.Ytpaldbejnbcokaa
