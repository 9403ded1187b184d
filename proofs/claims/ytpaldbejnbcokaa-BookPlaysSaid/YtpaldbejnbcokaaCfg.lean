/- The data of package api as words, how they lie in cells, how lists of them are written and read. No function of the program. -/
import Derived.Test.YtpaldbejnbcokaaPackA
namespace Go.Proofs.Ytpaldbejnbcokaa
open Go.RowKit

structure Hd where
  hi : UInt64
  lo : UInt64
structure Cb where
  value : Hd
  care : Hd
structure Ac where
  kind : UInt64
  port : UInt64
  table : UInt64
  set : Cb
structure Rl where
  prio : UInt64
  mat : Cb
  act : Ac
structure Pt where
  kind : UInt64
  tenant : UInt64
  peer : UInt64
  at_ : UInt64
  cost : UInt64
structure Wy where
  fro : UInt64
  to : UInt64
  via : UInt64
structure Pr where
  a : UInt64
  b : UInt64
structure Cfg where
  ports : List (List Pt)
  tenants : UInt64
  peers : List Pr
  ways : List Wy
  tables : List (List (List Rl))
structure Lt where
  kind : UInt64
  fro : UInt64
  to : UInt64
  version : UInt64
  serial : UInt64
  tables : List (List Rl)
structure En where
  kind : UInt64
  version : UInt64
  serial : UInt64
  cfg : Cfg

/-! ### Words -/
def Hd.words (x : Hd) : List UInt64 := [x.hi, x.lo]
def Cb.words (x : Cb) : List UInt64 := [x.value.hi, x.value.lo, x.care.hi, x.care.lo]
def Rl.words (x : Rl) : List UInt64 := [x.prio, x.mat.value.hi, x.mat.value.lo, x.mat.care.hi, x.mat.care.lo, x.act.kind, x.act.port, x.act.table, x.act.set.value.hi, x.act.set.value.lo, x.act.set.care.hi, x.act.set.care.lo]
def Pt.words (x : Pt) : List UInt64 := [x.kind, x.tenant, x.peer, x.at_, x.cost]
def Wy.words (x : Wy) : List UInt64 := [x.fro, x.to, x.via]
def Pr.words (x : Pr) : List UInt64 := [x.a, x.b]
def itemsW {α : Type} (f : α → List UInt64) (l : List α) : List UInt64 := UInt64.ofNat l.length :: l.flatMap f
def portsW (l : List Pt) : List UInt64 := itemsW Pt.words l
def rulesW (l : List Rl) : List UInt64 := itemsW Rl.words l
def tablesW (l : List (List Rl)) : List UInt64 := itemsW rulesW l
def Cfg.words (c : Cfg) : List UInt64 := itemsW portsW c.ports ++ (c.tenants :: (itemsW Pr.words c.peers ++ (itemsW Wy.words c.ways ++ itemsW tablesW c.tables)))
def Lt.words (l : Lt) : List UInt64 := l.kind :: l.fro :: l.to :: l.version :: l.serial :: tablesW l.tables
def En.words (e : En) : List UInt64 := e.kind :: e.version :: e.serial :: e.cfg.words
def enc8 (ws : List UInt64) : List UInt8 := ws.flatMap fun n => putF n 8
theorem enc8_nil : enc8 [] = [] := rfl
theorem enc8_cons (n : UInt64) (ws : List UInt64) : enc8 (n :: ws) = putF n 8 ++ enc8 ws := rfl
theorem enc8_append (a b : List UInt64) : enc8 (a ++ b) = enc8 a ++ enc8 b := by simp [enc8]
theorem enc8_len : ∀ ws : List UInt64, (enc8 ws).length = 8 * ws.length
  | [] => rfl
  | n :: ws => by rw [enc8_cons, List.length_append, putF_len, enc8_len ws, List.length_cons]; omega

/-! ### Which fit -/
def fitL {α : Type} (f : α → Bool) (l : List α) : Bool := decide (l.length ≤ 200) && l.all f
def yes {α : Type} (_ : α) : Bool := true
def portsFit (l : List Pt) : Bool := fitL yes l
def rulesFit (l : List Rl) : Bool := fitL yes l
def tablesFit (l : List (List Rl)) : Bool := fitL rulesFit l
def Cfg.fit (c : Cfg) : Bool := fitL portsFit c.ports && (fitL yes c.peers && (fitL yes c.ways && fitL tablesFit c.tables))

/-! ### Reading -/
abbrev RS := Rd × Bool
def RS.word (s : RS) : UInt64 × RS := (s.1.wide, ((s.1.take 8).2, s.2))
def rdN {α : Type} (item : RS → α × RS) : Nat → RS → List α × RS
  | 0, s => ([], s)
  | k + 1, s => ((rdN item k s).1 ++ [(item (rdN item k s).2).1], (item (rdN item k s).2).2)
def rdList {α : Type} (item : RS → α × RS) (s : RS) : List α × RS :=
  if i64of s.1.wide < 0 ∨ 200 < i64of s.1.wide ∨ ((s.1.take 8).2.left : Int) < i64of s.1.wide then ([], ((s.1.take 8).2, s.2 || (i64of s.1.wide != 0))) else rdN item (i64of s.1.wide).toNat ((s.1.take 8).2, s.2)
def rdHd (s : RS) : Hd × RS := (⟨s.word.1, s.word.2.word.1⟩, s.word.2.word.2)
def rdCb (s : RS) : Cb × RS := (⟨(rdHd s).1, (rdHd (rdHd s).2).1⟩, (rdHd (rdHd s).2).2)
def rdPt (s : RS) : Pt × RS := (⟨s.word.1, s.word.2.word.1, s.word.2.word.2.word.1, s.word.2.word.2.word.2.word.1, s.word.2.word.2.word.2.word.2.word.1⟩, s.word.2.word.2.word.2.word.2.word.2)
def rdWy (s : RS) : Wy × RS := (⟨s.word.1, s.word.2.word.1, s.word.2.word.2.word.1⟩, s.word.2.word.2.word.2)
def rdPr (s : RS) : Pr × RS := (⟨s.word.1, s.word.2.word.1⟩, s.word.2.word.2)
def rdAc3 (s : RS) : RS := s.word.2.word.2.word.2
def rdRl (s : RS) : Rl × RS :=
  (⟨s.word.1, (rdCb s.word.2).1, ⟨(rdCb s.word.2).2.word.1, (rdCb s.word.2).2.word.2.word.1, (rdCb s.word.2).2.word.2.word.2.word.1, (rdCb (rdAc3 (rdCb s.word.2).2)).1⟩⟩, (rdCb (rdAc3 (rdCb s.word.2).2)).2)
def rdPorts : RS → List Pt × RS := rdList rdPt
def rdRules : RS → List Rl × RS := rdList rdRl
def rdTables : RS → List (List Rl) × RS := rdList rdRules
def rdCfg (s : RS) : Cfg × RS :=
  (⟨(rdList rdPorts s).1, (rdList rdPorts s).2.word.1, (rdList rdPr (rdList rdPorts s).2.word.2).1, (rdList rdWy (rdList rdPr (rdList rdPorts s).2.word.2).2).1, (rdList rdTables (rdList rdWy (rdList rdPr (rdList rdPorts s).2.word.2).2).2).1⟩,
    (rdList rdTables (rdList rdWy (rdList rdPr (rdList rdPorts s).2.word.2).2).2).2)
def rd5 (s : RS) : RS := s.word.2.word.2.word.2.word.2.word.2
def rdLt (s : RS) : Lt × RS :=
  (⟨s.word.1, s.word.2.word.1, s.word.2.word.2.word.1, s.word.2.word.2.word.2.word.1, s.word.2.word.2.word.2.word.2.word.1, (rdTables (rd5 s)).1⟩, (rdTables (rd5 s)).2)
def rdEn (s : RS) : En × RS := (⟨s.word.1, s.word.2.word.1, s.word.2.word.2.word.1, (rdCfg (rdAc3 s)).1⟩, (rdCfg (rdAc3 s)).2)

/-! ### What was written is read -/
/-- A reader that still has these bytes, and has met nothing wrong. -/
def has (l : List UInt8) : RS := (⟨l, 0⟩, false)
theorem word_app (n : UInt64) (l : List UInt8) : (has (putF n 8 ++ l)).word = (n, has l) := by
  unfold RS.word has
  rw [wide_app, take8_app]
def Reads {α : Type} (item : RS → α × RS) (f : α → List UInt64) (x : α) : Prop := ∀ t, item (has (enc8 (f x) ++ t)) = (x, has t)
theorem i64of_small {n : Nat} (h : n ≤ 200) : i64of (UInt64.ofNat n) = n := by
  unfold i64of wrap64
  rw [UInt64.toNat_ofNat']
  omega
theorem rdN_app {α : Type} {item : RS → α × RS} {f : α → List UInt64} : ∀ (l : List α) (t : List UInt8), (∀ x ∈ l, Reads item f x) → rdN item l.length (has (enc8 (l.flatMap f) ++ t)) = (l, has t) := by
  have main : ∀ (k : Nat) (l : List α) (t : List UInt8), k ≤ l.length → (∀ x ∈ l, Reads item f x) → rdN item k (has (enc8 (l.flatMap f) ++ t)) = (l.take k, has (enc8 ((l.drop k).flatMap f) ++ t)) := by
    intro k
    induction k with
    | zero => intro l t _ _; simp [rdN]
    | succ k ih =>
      intro l t hk hr
      have h := ih l t (by omega) hr
      obtain ⟨x, hx⟩ : ∃ x, l[k]? = some x := ⟨_, List.getElem?_eq_getElem (by omega)⟩
      have hd : l.drop k = x :: l.drop (k + 1) := by
        obtain ⟨hlt, e⟩ := List.getElem?_eq_some_iff.1 hx
        rw [List.drop_eq_getElem_cons hlt, e]
      rw [rdN, h, hd, List.flatMap_cons, enc8_append, List.append_assoc, hr x (List.mem_of_getElem? hx), take_snoc hx]
  intro l t hr
  have h := main l.length l t (Nat.le_refl _) hr
  rw [List.take_of_length_le (Nat.le_refl _), List.drop_of_length_le (Nat.le_refl _)] at h
  exact h
theorem flat_len {α : Type} {f : α → List UInt64} (hf : ∀ x, f x ≠ []) : ∀ l : List α, l.length ≤ (l.flatMap f).length
  | [] => Nat.le_refl _
  | x :: l => by
    have h1 := flat_len hf l
    have h2 := List.length_pos_iff.2 (hf x)
    rw [List.flatMap_cons, List.length_append, List.length_cons]
    omega
theorem reads_list {α : Type} {item : RS → α × RS} {f : α → List UInt64} {ok : α → Bool} (hf : ∀ x, f x ≠ []) (hr : ∀ x, ok x = true → Reads item f x) (l : List α) (hl : fitL ok l = true) : Reads (rdList item) (itemsW f) l := by
  intro t
  simp only [fitL, Bool.and_eq_true, decide_eq_true_eq, List.all_eq_true] at hl
  have h1 := i64of_small hl.1
  have h2 := flat_len hf l
  have hw : (has (enc8 (itemsW f l) ++ t)).1.wide = UInt64.ofNat l.length := by
    rw [itemsW, enc8_cons, List.append_assoc]
    exact wide_app _ _
  have ht : ((has (enc8 (itemsW f l) ++ t)).1.take 8).2 = ⟨enc8 (l.flatMap f) ++ t, 0⟩ := by
    rw [itemsW, enc8_cons, List.append_assoc]
    exact take8_app _ _
  unfold rdList
  rw [hw, ht, h1, if_neg, Int.toNat_natCast]
  · exact rdN_app l t fun x hx => hr x (hl.2 x hx)
  · have : Rd.left ⟨enc8 (l.flatMap f) ++ t, 0⟩ = 8 * (l.flatMap f).length + t.length := by
      rw [Rd.left, if_pos rfl, List.length_append, enc8_len]
    rw [this]
    omega
theorem reads_pt (x : Pt) : Reads rdPt Pt.words x := by
  intro t
  simp only [Pt.words, enc8_cons, enc8_nil, List.append_assoc, List.nil_append, rdPt, word_app]
theorem reads_wy (x : Wy) : Reads rdWy Wy.words x := by
  intro t
  simp only [Wy.words, enc8_cons, enc8_nil, List.append_assoc, List.nil_append, rdWy, word_app]
theorem reads_pr (x : Pr) : Reads rdPr Pr.words x := by
  intro t
  simp only [Pr.words, enc8_cons, enc8_nil, List.append_assoc, List.nil_append, rdPr, word_app]
theorem reads_rl (x : Rl) : Reads rdRl Rl.words x := by
  intro t
  simp only [Rl.words, enc8_cons, enc8_nil, List.append_assoc, List.nil_append, rdRl, rdCb, rdHd, rdAc3, word_app]
theorem itemsW_ne {α : Type} (f : α → List UInt64) (l : List α) : itemsW f l ≠ [] := by simp [itemsW]
theorem reads_ports (l : List Pt) (h : portsFit l = true) : Reads rdPorts portsW l := reads_list (fun _ => by simp [Pt.words]) (fun x _ => reads_pt x) l h
theorem reads_rules (l : List Rl) (h : rulesFit l = true) : Reads rdRules rulesW l := reads_list (fun _ => by simp [Rl.words]) (fun x _ => reads_rl x) l h
theorem reads_tables (l : List (List Rl)) (h : tablesFit l = true) : Reads rdTables tablesW l := reads_list (fun _ => itemsW_ne _ _) reads_rules l h
theorem reads_cfg (c : Cfg) (h : c.fit = true) : Reads rdCfg Cfg.words c := by
  intro t
  simp only [Cfg.fit, Bool.and_eq_true] at h
  obtain ⟨h1, h2, h3, h4⟩ := h
  have r1 := reads_list (item := rdPorts) (f := portsW) (fun _ => itemsW_ne _ _) reads_ports c.ports h1
  have r2 := reads_list (item := rdPr) (f := Pr.words) (fun _ => by simp [Pr.words]) (fun x _ => reads_pr x) c.peers h2
  have r3 := reads_list (item := rdWy) (f := Wy.words) (fun _ => by simp [Wy.words]) (fun x _ => reads_wy x) c.ways h3
  have r4 := reads_list (item := rdTables) (f := tablesW) (fun _ => itemsW_ne _ _) reads_tables c.tables h4
  unfold Reads at r1 r2 r3 r4
  simp only [Cfg.words, enc8_cons, enc8_append, List.append_assoc, rdCfg, r1, word_app, r2, r3, r4]
theorem reads_lt (l : Lt) (h : tablesFit l.tables = true) : Reads rdLt Lt.words l := by
  intro t
  have r1 := reads_tables l.tables h
  unfold Reads at r1
  simp only [Lt.words, enc8_cons, List.append_assoc, rdLt, rd5, word_app, r1]
theorem reads_en (e : En) (h : e.cfg.fit = true) : Reads rdEn En.words e := by
  intro t
  have r1 := reads_cfg e.cfg h
  unfold Reads at r1
  simp only [En.words, enc8_cons, List.append_assoc, rdEn, rdAc3, word_app, r1]
/-- Unlike ones have unlike words. -/
theorem reads_inj {α : Type} {item : RS → α × RS} {f : α → List UInt64} {x y : α} (hx : Reads item f x) (hy : Reads item f y) (h : enc8 (f x) = enc8 (f y)) : x = y := by
  have h1 := hx []
  have h2 := hy []
  rw [h, h2] at h1
  exact (Prod.mk.inj h1).1.symm
end Go.Proofs.Ytpaldbejnbcokaa
