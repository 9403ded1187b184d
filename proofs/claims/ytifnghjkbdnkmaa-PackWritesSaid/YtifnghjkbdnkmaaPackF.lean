/- Fields, as the laws of layer 4 are handed them. -/
import Derived.Test.YtifnghjkbdnkmaaPackA
import Derived.Test.YtifnghjkbdnkmaaRead
namespace Go.Proofs.Ytifnghjkbdnkmaa
open Go.RowKit Go.WideShapes Go.ChangeShapes

structure Field where
  what : Int
  n : Int
  w : UInt64
  s : ByteArray
def Field.ok (f : Field) : Prop := IsInt f.what ∧ IsInt f.n ∧ f.s.size ≤ 9223372036854775807
def fieldR : Rep Field := Rep.plainIf 4 (fun f => [.int .i64 f.what, .int .i64 f.n, .int .u64 f.w.toNat, .string f.s]) Field.ok (fun _ => rfl) (by simp [Value.oneCell'])

/-- A field's cells. -/
theorem SliceAt.get_field {w : World} {F : Nat → Prop} {xs : List Field} {A : Option Addr} {n c k : Nat} {x : Field} (h : SliceAt fieldR w F xs (.slice A n c)) (hk : xs[k]? = some x) :
    ∃ b off, A = some ⟨b, off, none⟩ ∧ F b ∧ x.ok ∧ w.cell? ⟨b, off + k * 4, none⟩ = some (.int .i64 x.what) ∧ w.cell? ⟨b, off + k * 4 + 1, none⟩ = some (.int .i64 x.n) ∧
      w.cell? ⟨b, off + k * 4 + 2, none⟩ = some (.int .u64 x.w.toNat) ∧ w.cell? ⟨b, off + k * 4 + 3, none⟩ = some (.string x.s) := by
  obtain ⟨b, off, cs, rfl, hF, _, hr, hc⟩ := h.get hk
  obtain ⟨rfl, hok⟩ : cs = _ ∧ x.ok := hr
  exact ⟨b, off, rfl, hF, hok, hc 0 _ rfl, hc 1 _ rfl, hc 2 _ rfl, hc 3 _ rfl⟩

def encF (f : Field) : List UInt8 := putF (UInt64.ofInt f.n) 8 ++ (putF f.w 8 ++ textF f.s)
def encsF (l : List Field) : List UInt8 := l.flatMap encF
theorem encsF_snoc (l : List Field) (f : Field) : encsF (l ++ [f]) = encsF l ++ putF (UInt64.ofInt f.n) 8 ++ putF f.w 8 ++ textF f.s := by simp [encsF, encF]
theorem encF_len (f : Field) : (encF f).length ≤ 16777236 := by
  have := text_len f.s
  simp only [encF, List.length_append, putF_len]
  omega
theorem encsF_len : ∀ (l : List Field), (encsF l).length ≤ l.length * 16777236
  | [] => by simp [encsF]
  | f :: l => by
    have h1 := encF_len f
    have h2 := encsF_len l
    have e : encsF (f :: l) = encF f ++ encsF l := by simp [encsF]
    rw [e, List.length_append, List.length_cons, Nat.add_mul]
    omega
theorem min60 {n k : Nat} (h1 : k < n) (h2 : k < 60) : k < min n 60 := by omega


theorem Try.cellsField : Try.prog.cellsOf 27 = 4 := by kernel_rfl
theorem Try.cellsInt : Try.prog.cellsOf 3 = 1 := by kernel_rfl
theorem Try.cellsU64 : Try.prog.cellsOf 25 = 1 := by kernel_rfl
theorem Try.cellsStr : Try.prog.cellsOf 9 = 1 := by kernel_rfl
theorem Try.cellsU8 : Try.prog.cellsOf 5 = 1 := by kernel_rfl
theorem readable_field : Readable Try.prog 27 fieldR := by
  intro H enc w base spare held fuel cs x hx
  obtain ⟨m, hl, hf⟩ := struct_part Try.underlying27 hx
  rw [Try.cellsField] at hl
  match cs, hl with
  | [c0, c1, c2, c3], _ =>
    obtain ⟨y0, f0⟩ := hf 0 3 0 1 rfl Try.cellsInt
    obtain ⟨y1, f1⟩ := hf 1 3 1 1 rfl Try.cellsInt
    obtain ⟨y2, f2⟩ := hf 2 25 2 1 rfl Try.cellsU64
    obtain ⟨y3, f3⟩ := hf 3 9 3 1 rfl Try.cellsStr
    obtain ⟨n0, e0, _, w0⟩ := DataW.trod_int Try.underlying3 f0
    obtain ⟨n1, e1, _, w1⟩ := DataW.trod_int Try.underlying3 f1
    obtain ⟨n2, e2, _, w2⟩ := DataW.trod_int Try.underlying25 f2
    obtain ⟨s3, e3, _, w3⟩ := DataW.trod_string Try.underlying9 f3
    obtain ⟨u2, rfl⟩ := wf_u64 w2
    injection e0 with e0
    injection e1 with e1
    injection e2 with e2
    injection e3 with e3
    subst e0 e1 e2 e3
    exact ⟨⟨n0, n1, u2, s3⟩, rfl, wf_i64 w0, wf_i64 w1, by unfold maxLen at w3; show s3.size ≤ _; omega⟩
theorem readable_fields : Readable Try.prog 22 fieldR.slice := readable_field.slice Try.underlying22 Try.cellsField (by decide)
end Go.Proofs.Ytifnghjkbdnkmaa
