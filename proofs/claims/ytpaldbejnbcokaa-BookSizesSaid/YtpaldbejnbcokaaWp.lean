/- The contracts of package wire, and of the verifier's functions beside it, in terms of data. -/
import Derived.Test.YtpaldbejnbcokaaSm3
import Derived.Test.YtpaldbejnbcokaaTy
import Derived.Test.YtpaldbejnbcokaaAwake
import Derived.Test.YtpaldbejnbcokaaLawSe
namespace Go.Proofs.Ytpaldbejnbcokaa.Sm
open Go.RowKit
set_option linter.unusedVariables false
set_option linter.unusedSimpArgs false

def encPt (x : Pt) : List AV := [.i .i64 (i64of x.kind), .i .i64 (i64of x.tenant), .i .i64 (i64of x.peer), .i .i64 (i64of x.at_), .i .i64 (i64of x.cost)]
def encWy (x : Wy) : List AV := [.i .i64 (i64of x.fro), .i .i64 (i64of x.to), .i .i64 (i64of x.via)]
def encPr (x : Pr) : List AV := [.i .i64 (i64of x.a), .i .i64 (i64of x.b)]
def encRl (x : Rl) : List AV := [.i .i64 (i64of x.prio), .u x.mat.value.hi, .u x.mat.value.lo, .u x.mat.care.hi, .u x.mat.care.lo, .i .i64 (i64of x.act.kind), .i .i64 (i64of x.act.port), .i .i64 (i64of x.act.table), .u x.act.set.value.hi, .u x.act.set.value.lo, .u x.act.set.care.hi, .u x.act.set.care.lo]
theorem encPt_ok : Enc ptR encPt := Enc.plain fun _ => rfl
theorem encWy_ok : Enc wyR encWy := Enc.plain fun _ => rfl
theorem encPr_ok : Enc prR encPr := Enc.plain fun _ => rfl
theorem encRl_ok : Enc rlR encRl := Enc.plain fun _ => rfl
def encPts (l : List Pt) : List AV := [.sl (l.map encPt)]
def encRls (l : List Rl) : List AV := [.sl (l.map encRl)]
def encTab (t : List (List Rl)) : List AV := [.sl (t.map encRls)]
theorem encPts_ok : Enc ptR.slice encPts := encPt_ok.slice (by show 0 < 5; omega)
theorem encRls_ok : Enc rlR.slice encRls := encRl_ok.slice (by show 0 < 12; omega)
theorem encTab_ok : Enc rlR.slice.slice encTab := encRls_ok.slice (by show 0 < 1; omega)
def cfgC (c : Cfg) : List AV := [.sl (c.ports.map encPts), .i .i64 (i64of c.tenants), .sl (c.peers.map encPr), .sl (c.ways.map encWy), .sl (c.tables.map encTab)]
def ltC (x : Lt) : List AV := [.i .i64 (i64of x.kind), .i .i64 (i64of x.fro), .i .i64 (i64of x.to), .i .i64 (i64of x.version), .i .i64 (i64of x.serial), .sl (x.tables.map encRls)]
def enC (x : En) : List AV := [.i .i64 (i64of x.kind), .i .i64 (i64of x.version), .i .i64 (i64of x.serial)] ++ cfgC x.cfg
section
variable {W : World} {F : Nat → Prop} {v : Value}
theorem cfg_of {c : Cfg} (h : PRel W F (.agg (cfgC c)) v) : ∃ v1 v2 v3 v4, v = .agg #[v1, .int .i64 (i64of c.tenants), v2, v3, v4] ∧ SliceAt ptR.slice W F c.ports v1 ∧ SliceAt prR W F c.peers v2 ∧ SliceAt wyR W F c.ways v3 ∧ SliceAt rlR.slice.slice W F c.tables v4 := by
  obtain ⟨vs, rfl, hl, hp⟩ := h.agg_inv
  match vs, hl with
  | [v1, t, v2, v3, v4], _ =>
    have ht := hp 1 _ t rfl rfl
    have e := val_eq' rfl ht
    subst e
    exact ⟨v1, v2, v3, v4, rfl, encPts_ok.slice_of (by show 0 < 1; omega) (hp 0 _ _ rfl rfl), encPr_ok.slice_of (by show 0 < 2; omega) (hp 2 _ _ rfl rfl), encWy_ok.slice_of (by show 0 < 3; omega) (hp 3 _ _ rfl rfl), encTab_ok.slice_of (by show 0 < 1; omega) (hp 4 _ _ rfl rfl)⟩
theorem cfg_to {c : Cfg} {v1 v2 v3 v4 : Value} (h1 : SliceAt ptR.slice W F c.ports v1) (h2 : SliceAt prR W F c.peers v2) (h3 : SliceAt wyR W F c.ways v3) (h4 : SliceAt rlR.slice.slice W F c.tables v4) : PRel W F (.agg (cfgC c)) (.agg #[v1, .int .i64 (i64of c.tenants), v2, v3, v4]) :=
  .agg (cfgC c) [v1, .int .i64 (i64of c.tenants), v2, v3, v4] rfl (all_one rfl) (pw_cons (encPts_ok.sl h1) (pw_cons (.i _ _) (pw_cons (encPr_ok.sl h2) (pw_cons (encWy_ok.sl h3) (pw_cons (encTab_ok.sl h4) pw_nil)))))
theorem lt_of {x : Lt} (h : PRel W F (.agg (ltC x)) v) : ∃ v1, v = .agg #[.int .i64 (i64of x.kind), .int .i64 (i64of x.fro), .int .i64 (i64of x.to), .int .i64 (i64of x.version), .int .i64 (i64of x.serial), v1] ∧ SliceAt rlR.slice W F x.tables v1 := by
  obtain ⟨vs, rfl, hl, hp⟩ := h.agg_inv
  match vs, hl with
  | [a, b, c, d, e, v1], _ =>
    obtain rfl := val_eq' rfl (hp 0 _ a rfl rfl)
    obtain rfl := val_eq' rfl (hp 1 _ b rfl rfl)
    obtain rfl := val_eq' rfl (hp 2 _ c rfl rfl)
    obtain rfl := val_eq' rfl (hp 3 _ d rfl rfl)
    obtain rfl := val_eq' rfl (hp 4 _ e rfl rfl)
    exact ⟨v1, rfl, encRls_ok.slice_of (by show 0 < 1; omega) (hp 5 _ _ rfl rfl)⟩
theorem lt_to {x : Lt} {v1 : Value} (h : SliceAt rlR.slice W F x.tables v1) : PRel W F (.agg (ltC x)) (.agg #[.int .i64 (i64of x.kind), .int .i64 (i64of x.fro), .int .i64 (i64of x.to), .int .i64 (i64of x.version), .int .i64 (i64of x.serial), v1]) :=
  .agg (ltC x) [.int .i64 (i64of x.kind), .int .i64 (i64of x.fro), .int .i64 (i64of x.to), .int .i64 (i64of x.version), .int .i64 (i64of x.serial), v1] rfl (all_one rfl) (pw_cons (.i _ _) (pw_cons (.i _ _) (pw_cons (.i _ _) (pw_cons (.i _ _) (pw_cons (.i _ _) (pw_cons (encRls_ok.sl h) pw_nil))))))
theorem en_of {x : En} (h : PRel W F (.agg (enC x)) v) : ∃ v1 v2 v3 v4, v = .agg #[.int .i64 (i64of x.kind), .int .i64 (i64of x.version), .int .i64 (i64of x.serial), v1, .int .i64 (i64of x.cfg.tenants), v2, v3, v4] ∧ SliceAt ptR.slice W F x.cfg.ports v1 ∧ SliceAt prR W F x.cfg.peers v2 ∧ SliceAt wyR W F x.cfg.ways v3 ∧ SliceAt rlR.slice.slice W F x.cfg.tables v4 := by
  obtain ⟨vs, rfl, hl, hp⟩ := h.agg_inv
  match vs, hl with
  | [a, b, c, v1, t, v2, v3, v4], _ =>
    obtain rfl := val_eq' rfl (hp 0 _ a rfl rfl)
    obtain rfl := val_eq' rfl (hp 1 _ b rfl rfl)
    obtain rfl := val_eq' rfl (hp 2 _ c rfl rfl)
    obtain rfl := val_eq' rfl (hp 4 _ t rfl rfl)
    exact ⟨v1, v2, v3, v4, rfl, encPts_ok.slice_of (by show 0 < 1; omega) (hp 3 _ _ rfl rfl), encPr_ok.slice_of (by show 0 < 2; omega) (hp 5 _ _ rfl rfl), encWy_ok.slice_of (by show 0 < 3; omega) (hp 6 _ _ rfl rfl), encTab_ok.slice_of (by show 0 < 1; omega) (hp 7 _ _ rfl rfl)⟩
theorem en_to {x : En} {v1 v2 v3 v4 : Value} (h1 : SliceAt ptR.slice W F x.cfg.ports v1) (h2 : SliceAt prR W F x.cfg.peers v2) (h3 : SliceAt wyR W F x.cfg.ways v3) (h4 : SliceAt rlR.slice.slice W F x.cfg.tables v4) : PRel W F (.agg (enC x)) (.agg #[.int .i64 (i64of x.kind), .int .i64 (i64of x.version), .int .i64 (i64of x.serial), v1, .int .i64 (i64of x.cfg.tenants), v2, v3, v4]) :=
  .agg (enC x) [.int .i64 (i64of x.kind), .int .i64 (i64of x.version), .int .i64 (i64of x.serial), v1, .int .i64 (i64of x.cfg.tenants), v2, v3, v4] rfl (all_one rfl) (pw_cons (.i _ _) (pw_cons (.i _ _) (pw_cons (.i _ _) (pw_cons (encPts_ok.sl h1) (pw_cons (.i _ _) (pw_cons (encPr_ok.sl h2) (pw_cons (encWy_ok.sl h3) (pw_cons (encTab_ok.sl h4) pw_nil))))))))
theorem cfgC_zero : PRel W F (.agg (cfgC zeroC)) zeroCV := by
  have h := cfg_to (c := zeroC) (SliceAt.nil ptR.slice W F) (SliceAt.nil prR W F) (SliceAt.nil wyR W F) (SliceAt.nil rlR.slice.slice W F)
  rw [show zeroC.tenants = 0 from rfl, line_i.1] at h
  exact h
theorem ltC_zero : PRel W F (.agg (ltC zeroL)) zeroLV := by
  have h := lt_to (x := zeroL) (SliceAt.nil rlR.slice W F)
  rw [show zeroL.kind = 0 from rfl, show zeroL.fro = 0 from rfl, show zeroL.to = 0 from rfl, show zeroL.version = 0 from rfl, show zeroL.serial = 0 from rfl, line_i.1] at h
  exact h
theorem enC_zero : PRel W F (.agg (enC zeroE)) zeroEV := by
  have h := en_to (x := zeroE) (SliceAt.nil ptR.slice W F) (SliceAt.nil prR W F) (SliceAt.nil wyR W F) (SliceAt.nil rlR.slice.slice W F)
  rw [show zeroE.kind = 0 from rfl, show zeroE.version = 0 from rfl, show zeroE.serial = 0 from rfl, show zeroE.cfg.tenants = 0 from rfl, line_i.1] at h
  exact h
end
theorem d_Config_yes (c : Cfg) (h : c.fit = true) : PDoes Try.prog 12 [.agg (cfgC c)] (.tup [.sl (byteEls (sealW c.words)), .i .i64 0]) :=
  .mk1 ⟨_, _, Try.func12, rfl, by kernel_rfl⟩ fun W F v hv hF => by
    obtain ⟨v1, v2, v3, v4, rfl, h1, h2, h3, h4⟩ := cfg_of hv
    refine (wir_Config W F c v1 v2 v3 v4 h1 h2 h3 h4 hF).mono ?_
    rintro e W' ⟨hk, ⟨h1, _⟩ | ⟨_, u, rfl, hu⟩⟩
    · rw [h] at h1; cases h1
    · exact ⟨_, rfl, hk, .tup2 (bytes_to hu).new (.i _ _)⟩
theorem d_Config_no (c : Cfg) (h : c.fit = false) : PDoes Try.prog 12 [.agg (cfgC c)] (.tup [.raw (.slice none 0 0), .i .i64 4]) :=
  .mk1 ⟨_, _, Try.func12, rfl, by kernel_rfl⟩ fun W F v hv hF => by
    obtain ⟨v1, v2, v3, v4, rfl, h1, h2, h3, h4⟩ := cfg_of hv
    refine (wir_Config W F c v1 v2 v3 v4 h1 h2 h3 h4 hF).mono ?_
    rintro e W' ⟨hk, ⟨_, rfl⟩ | ⟨h1, _⟩⟩
    · exact ⟨_, rfl, hk, .tup2 (.raw _) (.i _ _)⟩
    · rw [h] at h1; cases h1
theorem d_Letter_yes (x : Lt) (h : tablesFit x.tables = true) : PDoes Try.prog 18 [.agg (ltC x)] (.tup [.sl (byteEls (sealW x.words)), .i .i64 0]) :=
  .mk1 ⟨_, _, Try.func18, rfl, by kernel_rfl⟩ fun W F v hv hF => by
    obtain ⟨v1, rfl, h1⟩ := lt_of hv
    refine (wir_Letter W F x v1 h1 hF).mono ?_
    rintro e W' ⟨hk, ⟨h1, _⟩ | ⟨_, u, rfl, hu⟩⟩
    · rw [h] at h1; cases h1
    · exact ⟨_, rfl, hk, .tup2 (bytes_to hu).new (.i _ _)⟩
theorem d_Letter_no (x : Lt) (h : tablesFit x.tables = false) : PDoes Try.prog 18 [.agg (ltC x)] (.tup [.raw (.slice none 0 0), .i .i64 4]) :=
  .mk1 ⟨_, _, Try.func18, rfl, by kernel_rfl⟩ fun W F v hv hF => by
    obtain ⟨v1, rfl, h1⟩ := lt_of hv
    refine (wir_Letter W F x v1 h1 hF).mono ?_
    rintro e W' ⟨hk, ⟨_, rfl⟩ | ⟨h1, _⟩⟩
    · exact ⟨_, rfl, hk, .tup2 (.raw _) (.i _ _)⟩
    · rw [h] at h1; cases h1
theorem d_Entry_yes (x : En) (h : x.cfg.fit = true) : PDoes Try.prog 23 [.agg (enC x)] (.tup [.sl (byteEls (sealW x.words)), .i .i64 0]) :=
  .mk1 ⟨_, _, Try.func23, rfl, by kernel_rfl⟩ fun W F v hv hF => by
    obtain ⟨v1, v2, v3, v4, rfl, h1, h2, h3, h4⟩ := en_of hv
    refine (wir_Entry W F x v1 v2 v3 v4 h1 h2 h3 h4 hF).mono ?_
    rintro e W' ⟨hk, ⟨h1, _⟩ | ⟨_, u, rfl, hu⟩⟩
    · rw [h] at h1; cases h1
    · exact ⟨_, rfl, hk, .tup2 (bytes_to hu).new (.i _ _)⟩
theorem d_Entry_no (x : En) (h : x.cfg.fit = false) : PDoes Try.prog 23 [.agg (enC x)] (.tup [.raw (.slice none 0 0), .i .i64 4]) :=
  .mk1 ⟨_, _, Try.func23, rfl, by kernel_rfl⟩ fun W F v hv hF => by
    obtain ⟨v1, v2, v3, v4, rfl, h1, h2, h3, h4⟩ := en_of hv
    refine (wir_Entry W F x v1 v2 v3 v4 h1 h2 h3 h4 hF).mono ?_
    rintro e W' ⟨hk, ⟨_, rfl⟩ | ⟨h1, _⟩⟩
    · exact ⟨_, rfl, hk, .tup2 (.raw _) (.i _ _)⟩
    · rw [h] at h1; cases h1
theorem d_ReadConfig_yes (l : List UInt8) (x : Cfg) (h : IsEnc Cfg.fit Cfg.words x l) (hr : ∀ y, Cfg.fit y = true → Reads rdCfg Cfg.words y) (hb : l.length ≤ 140737488355328) : PDoes Try.prog 15 [.sl (byteEls l)] (.tup [.agg (cfgC x), .i .i64 0]) :=
  .mk1 ⟨_, _, Try.func15, rfl, by kernel_rfl⟩ fun W F v hv hF => by
    refine (wir_ReadConfig W F l v (bytes_of hv) hF hb).mono ?_
    rintro e W' ⟨hk, ⟨y, hy, v1, v2, v3, v4, rfl, h1, h2, h3, h4⟩ | ⟨hn, _⟩⟩
    · obtain rfl := isEnc_inj hr h hy
      exact ⟨_, rfl, hk, .tup2 (cfg_to h1 h2 h3 h4).new (.i _ _)⟩
    · exact (hn ⟨x, h⟩).elim
theorem d_ReadConfig_no (l : List UInt8) (h : ¬ ∃ x, IsEnc Cfg.fit Cfg.words x l) (hb : l.length ≤ 140737488355328) : PDoes Try.prog 15 [.sl (byteEls l)] (.tup [.agg (cfgC zeroC), .i .i64 2]) :=
  .mk1 ⟨_, _, Try.func15, rfl, by kernel_rfl⟩ fun W F v hv hF => by
    refine (wir_ReadConfig W F l v (bytes_of hv) hF hb).mono ?_
    rintro e W' ⟨hk, ⟨y, hy, _⟩ | ⟨_, rfl⟩⟩
    · exact (h ⟨y, hy⟩).elim
    · exact ⟨_, rfl, hk, .tup2 (cfgC_zero).new (.i _ _)⟩
theorem d_ReadLetter_yes (l : List UInt8) (x : Lt) (h : IsEnc (fun x => tablesFit x.tables) Lt.words x l) (hr : ∀ y, (fun x => tablesFit x.tables) y = true → Reads rdLt Lt.words y) (hb : l.length ≤ 140737488355328) : PDoes Try.prog 21 [.sl (byteEls l)] (.tup [.agg (ltC x), .i .i64 0]) :=
  .mk1 ⟨_, _, Try.func21, rfl, by kernel_rfl⟩ fun W F v hv hF => by
    refine (wir_ReadLetter W F l v (bytes_of hv) hF hb).mono ?_
    rintro e W' ⟨hk, ⟨y, hy, v1, rfl, h1⟩ | ⟨hn, _⟩⟩
    · obtain rfl := isEnc_inj hr h hy
      exact ⟨_, rfl, hk, .tup2 (lt_to h1).new (.i _ _)⟩
    · exact (hn ⟨x, h⟩).elim
theorem d_ReadLetter_no (l : List UInt8) (h : ¬ ∃ x, IsEnc (fun x => tablesFit x.tables) Lt.words x l) (hb : l.length ≤ 140737488355328) : PDoes Try.prog 21 [.sl (byteEls l)] (.tup [.agg (ltC zeroL), .i .i64 2]) :=
  .mk1 ⟨_, _, Try.func21, rfl, by kernel_rfl⟩ fun W F v hv hF => by
    refine (wir_ReadLetter W F l v (bytes_of hv) hF hb).mono ?_
    rintro e W' ⟨hk, ⟨y, hy, _⟩ | ⟨_, rfl⟩⟩
    · exact (h ⟨y, hy⟩).elim
    · exact ⟨_, rfl, hk, .tup2 (ltC_zero).new (.i _ _)⟩
theorem d_ReadEntry_yes (l : List UInt8) (x : En) (h : IsEnc (fun x => x.cfg.fit) En.words x l) (hr : ∀ y, (fun x => x.cfg.fit) y = true → Reads rdEn En.words y) (hb : l.length ≤ 140737488355328) : PDoes Try.prog 24 [.sl (byteEls l)] (.tup [.agg (enC x), .i .i64 0]) :=
  .mk1 ⟨_, _, Try.func24, rfl, by kernel_rfl⟩ fun W F v hv hF => by
    refine (wir_ReadEntry W F l v (bytes_of hv) hF hb).mono ?_
    rintro e W' ⟨hk, ⟨y, hy, v1, v2, v3, v4, rfl, h1, h2, h3, h4⟩ | ⟨hn, _⟩⟩
    · obtain rfl := isEnc_inj hr h hy
      exact ⟨_, rfl, hk, .tup2 (en_to h1 h2 h3 h4).new (.i _ _)⟩
    · exact (hn ⟨x, h⟩).elim
theorem d_ReadEntry_no (l : List UInt8) (h : ¬ ∃ x, IsEnc (fun x => x.cfg.fit) En.words x l) (hb : l.length ≤ 140737488355328) : PDoes Try.prog 24 [.sl (byteEls l)] (.tup [.agg (enC zeroE), .i .i64 2]) :=
  .mk1 ⟨_, _, Try.func24, rfl, by kernel_rfl⟩ fun W F v hv hF => by
    refine (wir_ReadEntry W F l v (bytes_of hv) hF hb).mono ?_
    rintro e W' ⟨hk, ⟨y, hy, _⟩ | ⟨_, rfl⟩⟩
    · exact (h ⟨y, hy⟩).elim
    · exact ⟨_, rfl, hk, .tup2 (enC_zero).new (.i _ _)⟩
theorem d_Same (c d : Cfg) (b : Bool) (hb : b = true ↔ c = d) : PDoes Try.prog 16 [.agg (cfgC c), .agg (cfgC d)] (.b b) :=
  .mk2 ⟨_, _, Try.func16, rfl, by kernel_rfl⟩ fun W F v u hv hu hF => by
    obtain ⟨v1, v2, v3, v4, rfl, h1, h2, h3, h4⟩ := cfg_of hv
    obtain ⟨u1, u2, u3, u4, rfl, g1, g2, g3, g4⟩ := cfg_of hu
    refine (ref_Same W F F c d v1 v2 v3 v4 u1 u2 u3 u4 h1 h2 h3 h4 g1 g2 g3 g4).mono ?_
    rintro e W' ⟨b', rfl, hb', hk⟩
    obtain rfl : b' = b := Bool.eq_iff_iff.2 (hb'.trans hb.symm)
    exact ⟨_, rfl, hk, .b _⟩
theorem d_alike (c d : Lt) (b : Bool) (hb : b = true ↔ c = d) : PDoes Try.prog 22 [.agg (ltC c), .agg (ltC d)] (.b b) :=
  .mk2 ⟨_, _, Try.func22, rfl, by kernel_rfl⟩ fun W F v u hv hu hF => by
    obtain ⟨v1, rfl, h1⟩ := lt_of hv
    obtain ⟨u1, rfl, g1⟩ := lt_of hu
    refine (lw_alike W F F c d v1 u1 h1 g1).mono ?_
    rintro e W' ⟨b', rfl, hb', hk⟩
    obtain rfl : b' = b := Bool.eq_iff_iff.2 (hb'.trans hb.symm)
    exact ⟨_, rfl, hk, .b _⟩
theorem d_tables_yes (t : List (List Rl)) (h : tablesFit t = true) : PDoes Try.prog 19 [.sl (t.map encRls)] (.tup [.s (enc8 (tablesW t)), .b true]) :=
  .mk1 ⟨_, _, Try.func19, rfl, by kernel_rfl⟩ fun W F v hv hF => by
    refine (lw_tables W F v t (encRls_ok.slice_of (by show 0 < 1; omega) hv)).mono ?_
    rintro e W' ⟨L, rfl, hL, _, hk⟩
    rw [h] at hL ⊢
    rw [hL rfl]
    exact ⟨_, rfl, hk, .tup2 (.s _) (.b _)⟩
theorem d_Sealed (l : List UInt8) (h : l.length + 8 ≤ 9223372036854775807) : PDoes Try.prog 14 [.s l] (.s (l ++ putF (sumF l) 8)) :=
  .mk1 ⟨_, _, Try.func14, rfl, by kernel_rfl⟩ fun W F v hv hF => by
    obtain rfl := val_eq' rfl hv
    refine (ref_Sealed_l W l h).mono ?_
    rintro e W' ⟨rfl, hk⟩
    exact ⟨_, rfl, hk, .s _⟩
theorem d_awake : PDoes Try.prog 17 [] (.b true) :=
  .mk0 ⟨_, _, Try.func17, rfl, by kernel_rfl⟩ fun W => (lw_awake W).mono fun e W' ⟨h1, h2⟩ => ⟨_, h1, h2, .b _⟩
end Go.Proofs.Ytpaldbejnbcokaa.Sm
