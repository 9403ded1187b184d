/- Configurations, letters, entries as values in a world; the contracts of package wire and of law21 in these words. -/
import Derived.Test.YtpaldbejnbcokaaLine
namespace Go.Proofs.Ytpaldbejnbcokaa
open Go.RowKit
set_option linter.unusedSimpArgs false
set_option linter.unusedVariables false

/-- All blocks that there are. -/
def Bel (w : World) : Nat → Prop := fun b => b < w.heap.size
theorem SliceAt.bel {α : Type} {R : Rep α} {w : World} {F : Nat → Prop} {xs : List α} {v : Value} (h : SliceAt R w F xs v) : SliceAt R w (Bel w) xs v := h.mono fun _ hlt _ => hlt
theorem SliceAt.on {α : Type} {R : Rep α} {w w' : World} {F : Nat → Prop} {xs : List α} {v : Value} (h : SliceAt R w F xs v) (hk : Kp No w w') : SliceAt R w' (Bel w') xs v := (h.kp hk (fun _ _ => id)).bel
def IsCfg (w : World) (c : Cfg) (v : Value) : Prop :=
  ∃ v1 v2 v3 v4, v = .agg #[v1, .int .i64 (i64of c.tenants), v2, v3, v4] ∧ SliceAt ptR.slice w (Bel w) c.ports v1 ∧ SliceAt prR w (Bel w) c.peers v2 ∧ SliceAt wyR w (Bel w) c.ways v3 ∧ SliceAt rlR.slice.slice w (Bel w) c.tables v4
def IsLt (w : World) (x : Lt) (v : Value) : Prop :=
  ∃ v1, v = .agg #[.int .i64 (i64of x.kind), .int .i64 (i64of x.fro), .int .i64 (i64of x.to), .int .i64 (i64of x.version), .int .i64 (i64of x.serial), v1] ∧ SliceAt rlR.slice w (Bel w) x.tables v1
def IsEn (w : World) (x : En) (v : Value) : Prop :=
  ∃ v1 v2 v3 v4, v = .agg #[.int .i64 (i64of x.kind), .int .i64 (i64of x.version), .int .i64 (i64of x.serial), v1, .int .i64 (i64of x.cfg.tenants), v2, v3, v4] ∧ SliceAt ptR.slice w (Bel w) x.cfg.ports v1 ∧ SliceAt prR w (Bel w) x.cfg.peers v2 ∧ SliceAt wyR w (Bel w) x.cfg.ways v3 ∧ SliceAt rlR.slice.slice w (Bel w) x.cfg.tables v4
theorem IsCfg.on {w w' : World} {c : Cfg} {v : Value} (h : IsCfg w c v) (hk : Kp No w w') : IsCfg w' c v := by
  obtain ⟨v1, v2, v3, v4, rfl, h1, h2, h3, h4⟩ := h
  exact ⟨v1, v2, v3, v4, rfl, h1.on hk, h2.on hk, h3.on hk, h4.on hk⟩
theorem IsLt.on {w w' : World} {x : Lt} {v : Value} (h : IsLt w x v) (hk : Kp No w w') : IsLt w' x v := by
  obtain ⟨v1, rfl, h1⟩ := h
  exact ⟨v1, rfl, h1.on hk⟩
theorem IsEn.on {w w' : World} {x : En} {v : Value} (h : IsEn w x v) (hk : Kp No w w') : IsEn w' x v := by
  obtain ⟨v1, v2, v3, v4, rfl, h1, h2, h3, h4⟩ := h
  exact ⟨v1, v2, v3, v4, rfl, h1.on hk, h2.on hk, h3.on hk, h4.on hk⟩
/-- The value's form: five cells. -/
theorem IsCfg.form {w : World} {c : Cfg} {v : Value} (h : IsCfg w c v) : ∃ A1 n1 k1 T A2 n2 k2 A3 n3 k3 A4 n4 k4, v = .agg #[.slice A1 n1 k1, .int .i64 T, .slice A2 n2 k2, .slice A3 n3 k3, .slice A4 n4 k4] ∧ Hid (n4 = c.tables.length) := by
  obtain ⟨v1, v2, v3, v4, rfl, h1, h2, h3, h4⟩ := h
  obtain ⟨A1, n1, k1, rfl, _, _, _⟩ := h1.form'
  obtain ⟨A2, n2, k2, rfl, _, _, _⟩ := h2.form'
  obtain ⟨A3, n3, k3, rfl, _, _, _⟩ := h3.form'
  obtain ⟨A4, n4, k4, rfl, h, _, _⟩ := h4.form'
  exact ⟨_, _, _, _, _, _, _, _, _, _, _, _, _, rfl, h⟩
def zeroC : Cfg := ⟨[], 0, [], [], []⟩
def zeroL : Lt := ⟨0, 0, 0, 0, 0, []⟩
def zeroE : En := ⟨0, 0, 0, zeroC⟩
def zeroCV : Value := .agg #[.slice none 0 0, .int .i64 0, .slice none 0 0, .slice none 0 0, .slice none 0 0]
def zeroLV : Value := .agg #[.int .i64 0, .int .i64 0, .int .i64 0, .int .i64 0, .int .i64 0, .slice none 0 0]
def zeroEV : Value := .agg #[.int .i64 0, .int .i64 0, .int .i64 0, .slice none 0 0, .int .i64 0, .slice none 0 0, .slice none 0 0, .slice none 0 0]
theorem isCfg_zero (w : World) : IsCfg w zeroC zeroCV := by
  have h0 := line_i.1
  exact ⟨_, _, _, _, by rw [show zeroC.tenants = 0 from rfl, h0]; rfl, SliceAt.nil _ _ _, SliceAt.nil _ _ _, SliceAt.nil _ _ _, SliceAt.nil _ _ _⟩
theorem isLt_zero (w : World) : IsLt w zeroL zeroLV := by
  have h0 := line_i.1
  exact ⟨_, by rw [show zeroL.kind = 0 from rfl, show zeroL.fro = 0 from rfl, show zeroL.to = 0 from rfl, show zeroL.version = 0 from rfl, show zeroL.serial = 0 from rfl, h0]; rfl, SliceAt.nil _ _ _⟩
theorem isEn_zero (w : World) : IsEn w zeroE zeroEV := by
  have h0 := line_i.1
  exact ⟨_, _, _, _, by rw [show zeroE.kind = 0 from rfl, show zeroE.version = 0 from rfl, show zeroE.serial = 0 from rfl, show zeroE.cfg.tenants = 0 from rfl, h0]; rfl, SliceAt.nil _ _ _, SliceAt.nil _ _ _, SliceAt.nil _ _ _, SliceAt.nil _ _ _⟩
/-- What a writing function of package wire hands back. -/
def WrO (w w' : World) (fit : Bool) (ws : List UInt64) (e : Ending) : Prop :=
  Kp No w w' ∧ ((fit = false ∧ e = .returned (.tuple #[.slice none 0 0, .int .i64 4])) ∨ (fit = true ∧ ∃ v, e = .returned (.tuple #[v, .int .i64 0]) ∧ SliceAt u8R w' (Bel w') (sealW ws) v))
/-- What a reading one hands back. -/
def RdO {α : Type} (fit : α → Bool) (words : α → List UInt64) (Is : World → α → Value → Prop) (zero : Value) (w w' : World) (l : List UInt8) (e : Ending) : Prop :=
  Kp No w w' ∧ ((∃ x v, IsEnc fit words x l ∧ e = .returned (.tuple #[v, .int .i64 0]) ∧ Is w' x v) ∨ ((¬ ∃ x, IsEnc fit words x l) ∧ e = .returned (.tuple #[zero, .int .i64 2])))
theorem WrOut.o {w w' : World} {fit : Bool} {ws : List UInt64} {e : Ending} (h : WrOut w w' fit ws e) : WrO w w' fit ws e := by
  obtain ⟨hk, h⟩ := h
  refine ⟨hk, ?_⟩
  rcases h with h | ⟨h1, v, h2, h3⟩
  · exact .inl h
  · exact .inr ⟨h1, v, h2, h3.bel⟩
theorem c_Config {w : World} {c : Cfg} {v : Value} (h : IsCfg w c v) : Calls Try.prog 12 #[v] w fun e w' => WrO w w' c.fit c.words e := by
  obtain ⟨v1, v2, v3, v4, rfl, h1, h2, h3, h4⟩ := h
  exact (wir_Config w _ c v1 v2 v3 v4 h1 h2 h3 h4 (fun _ h => h)).mono fun _ _ h => h.o
theorem c_Letter {w : World} {x : Lt} {v : Value} (h : IsLt w x v) : Calls Try.prog 18 #[v] w fun e w' => WrO w w' (tablesFit x.tables) x.words e := by
  obtain ⟨v1, rfl, h1⟩ := h
  exact (wir_Letter w _ x v1 h1 (fun _ h => h)).mono fun _ _ h => h.o
theorem c_Entry {w : World} {x : En} {v : Value} (h : IsEn w x v) : Calls Try.prog 23 #[v] w fun e w' => WrO w w' x.cfg.fit x.words e := by
  obtain ⟨v1, v2, v3, v4, rfl, h1, h2, h3, h4⟩ := h
  exact (wir_Entry w _ x v1 v2 v3 v4 h1 h2 h3 h4 (fun _ h => h)).mono fun _ _ h => h.o
theorem c_ReadConfig {w : World} {F : Nat → Prop} {l : List UInt8} {v : Value} (h : SliceAt u8R w F l v) (hb : l.length ≤ 140737488355328) : Calls Try.prog 15 #[v] w fun e w' => RdO Cfg.fit Cfg.words IsCfg zeroCV w w' l e := by
  refine (wir_ReadConfig w _ l v h.bel (fun _ h => h) hb).mono ?_
  rintro e w' ⟨hk, ⟨x, hx, v1, v2, v3, v4, rfl, h1, h2, h3, h4⟩ | ⟨hx, rfl⟩⟩
  · exact ⟨hk, .inl ⟨x, _, hx, rfl, _, _, _, _, rfl, h1.bel, h2.bel, h3.bel, h4.bel⟩⟩
  · exact ⟨hk, .inr ⟨hx, rfl⟩⟩
theorem c_ReadLetter {w : World} {F : Nat → Prop} {l : List UInt8} {v : Value} (h : SliceAt u8R w F l v) (hb : l.length ≤ 140737488355328) : Calls Try.prog 21 #[v] w fun e w' => RdO (fun x => tablesFit x.tables) Lt.words IsLt zeroLV w w' l e := by
  refine (wir_ReadLetter w _ l v h.bel (fun _ h => h) hb).mono ?_
  rintro e w' ⟨hk, ⟨x, hx, v1, rfl, h1⟩ | ⟨hx, rfl⟩⟩
  · exact ⟨hk, .inl ⟨x, _, hx, rfl, _, rfl, h1.bel⟩⟩
  · exact ⟨hk, .inr ⟨hx, rfl⟩⟩
theorem c_ReadEntry {w : World} {F : Nat → Prop} {l : List UInt8} {v : Value} (h : SliceAt u8R w F l v) (hb : l.length ≤ 140737488355328) : Calls Try.prog 24 #[v] w fun e w' => RdO (fun x => x.cfg.fit) En.words IsEn zeroEV w w' l e := by
  refine (wir_ReadEntry w _ l v h.bel (fun _ h => h) hb).mono ?_
  rintro e w' ⟨hk, ⟨x, hx, v1, v2, v3, v4, rfl, h1, h2, h3, h4⟩ | ⟨hx, rfl⟩⟩
  · exact ⟨hk, .inl ⟨x, _, hx, rfl, _, _, _, _, rfl, h1.bel, h2.bel, h3.bel, h4.bel⟩⟩
  · exact ⟨hk, .inr ⟨hx, rfl⟩⟩
theorem c_Same {w : World} {c d : Cfg} {v u : Value} (h : IsCfg w c v) (g : IsCfg w d u) : Calls Try.prog 16 #[v, u] w fun e w' => SameOut w w' (c = d) e := by
  obtain ⟨v1, v2, v3, v4, rfl, h1, h2, h3, h4⟩ := h
  obtain ⟨u1, u2, u3, u4, rfl, g1, g2, g3, g4⟩ := g
  exact ref_Same w _ _ c d v1 v2 v3 v4 u1 u2 u3 u4 h1 h2 h3 h4 g1 g2 g3 g4
theorem c_alike {w : World} {c d : Lt} {v u : Value} (h : IsLt w c v) (g : IsLt w d u) : Calls Try.prog 22 #[v, u] w fun e w' => SameOut w w' (c = d) e := by
  obtain ⟨v1, rfl, h1⟩ := h
  obtain ⟨u1, rfl, g1⟩ := g
  exact lw_alike w _ _ c d v1 u1 h1 g1
theorem c_line (w : World) : Calls Try.prog 43 #[] w fun e w' => ∃ v, e = .returned v ∧ IsCfg w' lineC v ∧ Kp No w w' := by
  refine (lw_line w).mono ?_
  rintro e w' ⟨v, rfl, ⟨v1, v2, v3, v4, rfl, h1, h2, h3, h4⟩, hk⟩
  exact ⟨_, rfl, ⟨_, _, _, _, rfl, h1.bel, h2.bel, h3.bel, h4.bel⟩, hk⟩
/-- What is encoded is one thing. -/
theorem isEnc_inj {α : Type} {fit : α → Bool} {words : α → List UInt64} {rd : RS → α × RS} (hr : ∀ x, fit x = true → Reads rd words x) {x y : α} {l : List UInt8} (hx : IsEnc fit words x l) (hy : IsEnc fit words y l) : x = y := by
  have e := (isEnc_read hr hx).symm.trans (isEnc_read hr hy)
  injection e
theorem sealW_len (ws : List UInt64) : (sealW ws).length = 8 * ws.length + 8 := by rw [sealW, List.length_append, enc8_len, putF_len]
/-- What was written is read back. -/
theorem RdO.back {α : Type} {fit : α → Bool} {words : α → List UInt64} {rd : RS → α × RS} {Is : World → α → Value → Prop} {zero : Value} {w w' : World} {e : Ending} {x : α} (hr : ∀ x, fit x = true → Reads rd words x) (hx : fit x = true) (h : RdO fit words Is zero w w' (sealW (words x)) e) :
    ∃ v, e = .returned (.tuple #[v, .int .i64 0]) ∧ Is w' x v ∧ Kp No w w' := by
  obtain ⟨hk, ⟨y, v, hy, rfl, hi⟩ | ⟨hn, _⟩⟩ := h
  · obtain rfl := isEnc_inj hr (show IsEnc fit words x _ from ⟨hx, rfl⟩) hy
    exact ⟨v, rfl, hi, hk⟩
  · exact (hn ⟨x, hx, rfl⟩).elim
end Go.Proofs.Ytpaldbejnbcokaa
