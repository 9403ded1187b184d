/- append of a string's bytes to a slice of bytes of the call's own. No program. -/
import Derived.Test.YtpaldbejnbcokaaNum
import Derived.Lib.AppendStr
namespace Go.Proofs.Ytpaldbejnbcokaa
open Go.RowKit

theorem all2_u8 (r : World) (F : Nat → Prop) : ∀ l : List UInt8, All2 (u8R.rel r F) l (l.map fun b => Value.int .u8 b.toNat)
  | [] => rfl
  | x :: l => ⟨[.int .u8 x.toNat], _, rfl, rfl, all2_u8 r F l⟩
theorem all2_u8_eq {r : World} {F : Nat → Prop} : ∀ {l : List UInt8} {cs : List Value}, All2 (u8R.rel r F) l cs → cs = l.map fun b => Value.int .u8 b.toNat
  | [], _, h => h
  | x :: l, _, h => by
    obtain ⟨c1, c2, rfl, h1, h2⟩ := h
    have e1 : c1 = [.int .u8 x.toNat] := h1
    rw [e1, all2_u8_eq h2]
    rfl

section
variable {P : Program} {w : World} {E O : Nat → Prop} {xs : List UInt8} {v : Value}
theorem run_append_str {t ty u e : Nat} (hel : elemB P t e 1 1 = true) (hz0 : (P.info? e).bind (·.zero) = some (.int .u8 0)) (hu : P.underlying u = some .string) (hown : OwnAt u8R e w E O xs v) (s : ByteArray)
    (hE : ∀ b, E b → b < w.heap.size) (hO : ∀ b, w.heap.size ≤ b → O b) (hb : xs.length + s.size ≤ 140737488355328) :
    ∃ v' w', (Builtin.append_ #[t, u] ty #[v, .string s]).run P w = .ok v' w' ∧ OwnAt u8R e w' E O (xs ++ s.data.toList) v' ∧ Kp (fun b => v.ownBlock = some b) w w' ∧
      (v'.ownBlock = v.ownBlock ∨ v'.ownBlock = some w.heap.size) := by
  obtain ⟨ht, i, z, hi, hz, hs, hby, hzs⟩ := elem_parts hel
  obtain rfl : z = .int .u8 0 := by rw [hi] at hz0; simp at hz0; rw [hz0] at hz; injection hz with hz; exact hz.symm
  obtain ⟨cells, h1, h2, h3⟩ := hown
  have hsz : s.data.toList.length = s.size := by rw [Array.length_toList]; rfl
  obtain ⟨v', w', hr, ho, hg, _⟩ := Lib.run_append_own_string (P := P) w 0 t u ty e i ht hu hi hz hs hby v xs.length cells h1 s (by unfold maxLen; omega) hb (Nat.zero_le _)
  have hk : Kp (fun b => v.ownBlock = some b) w w' := (Kp.refl _ w).grown hg (fun k hk => .inl hk)
  have hat : v'.ownBlock = v.ownBlock ∨ v'.ownBlock = some w.heap.size := by
    rcases h1.2 with ⟨rfl, h0⟩ | ⟨g, cap, cur, rfl, hbg, hgg, hnc, hcm, hcs, htake⟩
    · by_cases hm : s.size = 0
      · have hf := Lib.run_firstCells_string (P := P) w 1 s
        rw [hm] at hf
        simp [Builtin.append_, run_underlying ht, run_underlying hu, sizeOf, typeInfo, hi, hs, Builtin.lenOf, hm, hf] at hr
        exact .inl (by rw [← hr.1])
      · have hr2 := run_append_nil_string (P := P) w t u ty e i (.int .u8 0) ht hu hi hz s (by omega) (by omega) (by rw [hby]; omega)
        rw [hr2] at hr
        injection hr with hr _
        exact .inr (by rw [← hr]; rfl)
    · by_cases hroom : xs.length + s.size ≤ cap
      · have hcs' : cur.size = cap := by rw [hcs]; exact Nat.mul_one _
        have hr2 := Lib.run_append_room_string (P := P) w t u ty e i ht hu hi hs g xs.length cap cur hgg s hroom (by omega)
        rw [hr2] at hr
        injection hr with hr _
        exact .inl (by rw [← hr]; rfl)
      · have hl1 : cells.length = xs.length * i.size := by rw [h1.1, hs]; rfl
        have holds : ∀ j u, cells[j]? = some u → w.cell? ((⟨g, 0, none⟩ : Addr).add j) = some u := h1.cells (g := g) rfl
        have hr2 := Lib.run_append_grow_string (P := P) w t u ty e i (.int .u8 0) ht hu hi hz ⟨g, 0, none⟩ xs.length cap cells hl1 holds s (by omega) (by omega) (by rw [hby]; exact growslice_fits (by omega) (by omega))
        rw [hr2] at hr
        injection hr with hr _
        exact .inr (by rw [← hr]; rfl)
  refine ⟨v', w', hr, ⟨cells ++ Lib.strCells s, ?_, ?_, fun g hg' => ?_⟩, hk, hat⟩
  · rw [List.length_append, hsz]
    exact ho
  · rw [all2_u8_eq h2]
    have := all2_u8 w' E (xs ++ s.data.toList)
    rwa [List.map_append] at this
  · rcases hat with h | h
    · exact h3 g (h ▸ hg')
    · have e := hg'.symm.trans h
      injection e with e
      subst e
      exact ⟨hO _ (Nat.le_refl _), fun he => absurd (hE _ he) (by omega)⟩

theorem wpList_append_str {ops : Array Oper} {rest : List Oper} {o : Oper} {a : Act} {Q : Exit → Act → World → Prop} {t u e : Nat} (hgd : o.guard = none) (sl x : Operand)
    (ho : o.op = .call { callee := .builtin .append, args := #[sl, x], argTypes := #[t, u] })
    (hel : elemB P t e 1 1 = true) (hz0 : (P.info? e).bind (·.zero) = some (.int .u8 0)) (hu : P.underlying u = some .string) (hs : a.eval sl = v) (hown : OwnAt u8R e w E O xs v) (s : ByteArray) (hx : a.eval x = .string s)
    (hE : ∀ b, E b → b < w.heap.size) (hO : ∀ b, w.heap.size ≤ b → O b) (hb : xs.length + s.size ≤ 140737488355328)
    (h : ∀ v' w', OwnAt u8R e w' E O (xs ++ s.data.toList) v' → Kp (fun b => v.ownBlock = some b) w w' → (v'.ownBlock = v.ownBlock ∨ v'.ownBlock = some w.heap.size) → wpList P ops Q rest (a.put o.dst v') w') : wpList P ops Q (o :: rest) a w := by
  refine wpList_plain hgd fun K hK => ?_
  obtain ⟨v', w', hr, h2, h3, h4⟩ := run_append_str (P := P) (ty := o.type) hel hz0 hu hown s hE hO hb
  unfold Oper.wp execOp
  simp only [ho, resolve, invoke, builtin, Sem.run_bind, Sem.run_pure, Result.andThen_ok, List.map_toArray, List.map_cons, List.map_nil, hs, hx, hr]
  exact hK _ _ (h v' w' h2 h3 h4)
end

/-- Bytes as a string. -/
def bs (l : List UInt8) : ByteArray := ⟨l.toArray⟩
theorem bs_list (s : ByteArray) : bs s.data.toList = s := rfl
theorem list_bs (l : List UInt8) : (bs l).data.toList = l := rfl
theorem bs_size (l : List UInt8) : (bs l).size = l.length := by simp [bs, ByteArray.size]
theorem size_list (s : ByteArray) : s.size = s.data.toList.length := by rw [Array.length_toList]; rfl
theorem bs_append (a b : List UInt8) : bs a ++ bs b = bs (a ++ b) := by
  apply ByteArray.ext
  simp [bs, ByteArray.data_append]
theorem bs_inj {a b : List UInt8} (h : bs a = bs b) : a = b := congrArg (fun s => s.data.toList) h

theorem run_conv_str {P : Program} {src dst e : TypeId} (hs : P.underlying src = some (.slice e)) (he : P.underlying e = some (.int .u8)) (hd : P.underlying dst = some .string)
    {w : World} {F : Nat → Prop} {l : List UInt8} {v : Value} (h : SliceAt u8R w F l v) : (convert src dst v).run P w = .ok (.string (bs l)) w := by
  obtain ⟨A, c, rfl, h1, h2, h3⟩ := h
  by_cases hp : 0 < l.length
  · obtain ⟨b, off, rfl, _, _, cells, ha, hc⟩ := h3 hp
    refine run_convert_bytes_back w src dst e ⟨b, off, none⟩ c l hs he hd fun j hj => ?_
    rw [show (⟨b, off, none⟩ : Addr).add j = ⟨b, off + j, none⟩ by unfold Addr.add; split <;> simp_all]
    refine hc j _ ?_
    rw [all2_u8_eq ha]
    simp [hj]
  · have h0 : l = [] := List.eq_nil_of_length_eq_zero (by omega)
    subst h0
    cases A with
    | none => exact run_convert_bytes_nil (P := P) (w := w) src e hs he _ _ dst hd
    | some a => exact run_convert_bytes_back w src dst e a c [] hs he hd (by simp)
end Go.Proofs.Ytpaldbejnbcokaa
