/- Package customhouselaw21's text: its loop over the tables. -/
import Derived.Test.YtpaldbejnbcokaaLawXh
namespace Go.Proofs.Ytpaldbejnbcokaa
open Go.RowKit
set_option linter.unusedSimpArgs false
set_option linter.unusedVariables false

theorem TxSo.tabsDone {wx wr : World} {xs : List (List (List Rl))} {k M : Nat} {ok okS : Bool} {L LS : List UInt8} (h : TxSo wx wr ok (okS && (xs.take k).all tablesFit) L (LS ++ enc8 ((xs.take k).flatMap tablesW)) (M + k * 5000000)) (hk : k ≤ 200) (hx : ok = true → k = xs.length) :
    TxSo wx wr ok (okS && xs.all tablesFit) L (LS ++ enc8 (xs.flatMap tablesW)) (M + 1000000000) := by
  obtain ⟨h1, h2, h3, h4⟩ := h
  refine ⟨?_, fun e => ?_, ?_, h4⟩
  · cases hok : ok with
    | true =>
      rw [hok, hx hok, List.take_of_length_le (Nat.le_refl _)] at h1
      exact h1
    | false =>
      rw [hok] at h1
      cases hz : okS with
      | false => rfl
      | true =>
        rw [hz, Bool.true_and] at h1
        have : xs.all tablesFit = false := by
          rw [Bool.eq_false_iff]
          intro ha
          have : (xs.take k).all tablesFit = true := List.all_eq_true.2 fun y hy => List.all_eq_true.1 ha y (List.mem_of_mem_take hy)
          rw [this] at h1
          cases h1
        rw [this]; rfl
  · rw [h2 e, hx e, List.take_of_length_le (Nat.le_refl _)]
  · have : k * 5000000 ≤ 200 * 5000000 := Nat.mul_le_mul_right _ hk
    omega
theorem tabs_round {wx wr w1 : World} {xs : List (List (List Rl))} {ys : List (List Rl)} {k M : Nat} {okS : Bool} {L LS L2 : List UInt8} (hx : xs[k]? = some ys) (h : TxSo wx wr true (okS && (xs.take k).all tablesFit) L (LS ++ enc8 ((xs.take k).flatMap tablesW)) (M + k * 5000000))
    (h2 : tablesFit ys = true → L2 = enc8 (tablesW ys)) (h3 : L2.length ≤ 5000000) (hk : Kp No wr w1) :
    TxSo wx w1 (tablesFit ys) (okS && (xs.take (k + 1)).all tablesFit) (L ++ L2) (LS ++ enc8 ((xs.take (k + 1)).flatMap tablesW)) (M + (k + 1) * 5000000) := by
  have ht := take_snoc hx
  obtain ⟨a1, a2, a3, a4⟩ := h
  refine ⟨?_, fun e => ?_, ?_, a4.trans hk⟩
  · rw [ht, List.all_append, List.all_cons, List.all_nil, Bool.and_true, ← Bool.and_assoc, ← a1, Bool.true_and]
  · rw [a2 rfl, h2 e, ht, List.flatMap_append, enc8_append, List.append_assoc]
    simp
  · rw [List.length_append, Nat.add_mul]
    omega

set_option maxRecDepth 100000 in
set_option maxHeartbeats 4000000 in
theorem lw_text_tables (wx w1 : World) (F : Nat → Prop) (xs : List (List (List Rl))) (A2 : Option Addr) (n2 k2 B : Nat) (ok okS : Bool) (L LS : List UInt8) (Hv2 : Hid (SliceAt rlR.slice.slice wx F xs (.slice A2 n2 k2))) (Hn2 : Hid (n2 = xs.length)) (hb2 : n2 ≤ k2) (hc2 : k2 ≤ 9223372036854775807) (c2 : wx.cell? ⟨B, 4, none⟩ = some (.slice A2 n2 k2)) (Hso : Hid (TxSo wx w1 ok okS L LS 3009008)) (h200 : Hid (ok = true → n2 ≤ 200)) {K : Act → World → Prop} {Q' : Exit → Act → World → Prop} {u0 u2 u3 u6 u7 u8 u9 u10 u11 u13 u14 u15 u16 u17 u18 u19 u20 u21 u22 u23 u24 u25 u26 u27 u28 u29 u30 u31 u32 u33 u34 u35 u36 u37 u38 u39 u40 u41 u42 u43 u44 u45 u46 u47 u48 u49 u50 u51 u52 u53 u54 u55 u56 u57 u58 u59 u60 u61 u62 u63 u64 u65 u66 u67 u68 u69 u70 u71 u72 u73 u74 u75 u76 u77 u78 u79 u80 u81 u82 u83 u84 u85 u86 u87 u88 u89 u90 u91 u92 u93 u94 u95 u96 u97 u98 u99 u100 u101 u102 u103 u104 u105 u106 u107 u108 u109 u110 u111 u112 u113 u114 u115 u116 u117 u118 u119 u120 u121 u122 u123 u124 u125 u126 u127 u128 u129 u130 u131 u132 u133 u134 u135 u136 u137 u138 u139 u140 u141 u142 u143 u144 u145 u146 u147 u148 u149 u150 u151 u152 u153 u154 u155 u156 u157 u158 u159 u160 u161 u162 u163 u164 u165 u166 u167 u168 u169 u170 u171 u172 u173 u174 u175 u176 u177 u178 u179 u180 u181 u182 u183 u184 u185 u186 u187 u188 u189 u190 u191 u192 u193 u194 u195 u196 u197 u198 u199 u200 u201 u202 u203 u204 u205 u206 u207 u208 u209 u210 u211 u212 u213 u214 u215 u216 u217 u218 u219 : Value}
    (HK : Hid (∀ (o s v12 v13 v14 v195 v196 v197 v198 v199 v200 v201 v202 v203 v204 v205 v206 v207 v208 v209 v210 v211 v212 v213 v214 v215 v216 v217 : Value) (wr : World), (∃ ok L, o = .bool ok ∧ s = .string (bs L) ∧ TxSo wx wr ok (okS && xs.all tablesFit) L (LS ++ enc8 (xs.flatMap tablesW)) (3009008 + 1000000000)) → K { tmps := #[u0, .pointer (some ⟨B, 0, none⟩), u2, u3, o, s, u6, u7, u8, u9, u10, u11, v12, v13, v14, u15, u16, u17, u18, u19, u20, u21, u22, u23, u24, u25, u26, u27, u28, u29, u30, u31, u32, u33, u34, u35, u36, u37, u38, u39, u40, u41, u42, u43, u44, u45, u46, u47, u48, u49, u50, u51, u52, u53, u54, u55, u56, u57, u58, u59, u60, u61, u62, u63, u64, u65, u66, u67, u68, u69, u70, u71, u72, u73, u74, u75, u76, u77, u78, u79, u80, u81, u82, u83, u84, u85, u86, u87, u88, u89, u90, u91, u92, u93, u94, u95, u96, u97, u98, u99, u100, u101, u102, u103, u104, u105, u106, u107, u108, u109, u110, u111, u112, u113, u114, u115, u116, u117, u118, u119, u120, u121, u122, u123, u124, u125, u126, u127, u128, u129, u130, u131, u132, u133, u134, u135, u136, u137, u138, u139, u140, u141, u142, u143, u144, u145, u146, u147, u148, u149, u150, u151, u152, u153, u154, u155, u156, u157, u158, u159, u160, u161, u162, u163, u164, u165, u166, u167, u168, u169, u170, u171, u172, u173, u174, u175, u176, u177, u178, u179, u180, u181, u182, u183, u184, u185, u186, u187, u188, u189, u190, u191, u192, u193, u194, v195, v196, v197, v198, v199, v200, v201, v202, v203, v204, v205, v206, v207, v208, v209, v210, v211, v212, v213, v214, v215, v216, v217, u218, u219], defers := [] } wr)) :
    ∀ cc, secBlock 8 (Try.f13.body.getD .skip) = cc → cc.wp Try.prog (Exit.then K Q') { tmps := #[u0, .pointer (some ⟨B, 0, none⟩), u2, u3, .bool ok, .string (bs L), u6, u7, u8, u9, u10, u11, .int .i64 0, u13, u14, u15, u16, u17, u18, u19, u20, u21, u22, u23, u24, u25, u26, u27, u28, u29, u30, u31, u32, u33, u34, u35, u36, u37, u38, u39, u40, u41, u42, u43, u44, u45, u46, u47, u48, u49, u50, u51, u52, u53, u54, u55, u56, u57, u58, u59, u60, u61, u62, u63, u64, u65, u66, u67, u68, u69, u70, u71, u72, u73, u74, u75, u76, u77, u78, u79, u80, u81, u82, u83, u84, u85, u86, u87, u88, u89, u90, u91, u92, u93, u94, u95, u96, u97, u98, u99, u100, u101, u102, u103, u104, u105, u106, u107, u108, u109, u110, u111, u112, u113, u114, u115, u116, u117, u118, u119, u120, u121, u122, u123, u124, u125, u126, u127, u128, u129, u130, u131, u132, u133, u134, u135, u136, u137, u138, u139, u140, u141, u142, u143, u144, u145, u146, u147, u148, u149, u150, u151, u152, u153, u154, u155, u156, u157, u158, u159, u160, u161, u162, u163, u164, u165, u166, u167, u168, u169, u170, u171, u172, u173, u174, u175, u176, u177, u178, u179, u180, u181, u182, u183, u184, u185, u186, u187, u188, u189, u190, u191, u192, u193, u194, u195, u196, u197, u198, u199, u200, u201, u202, u203, u204, u205, u206, u207, u208, u209, u210, u211, u212, u213, u214, u215, u216, u217, u218, u219], defers := [] } w1 := by
  rintro cc rfl
  show Code.wp _ (Code.block 8 _) _ _ _
  go_wp2_with fail
  go_loopw [4, 5, 12] (fun o s i wr => ∃ (k : Nat) (ok : Bool) (L : List UInt8), k ≤ n2 ∧ k ≤ 200 ∧ i = .int .i64 k ∧ o = .bool ok ∧ s = .string (bs L) ∧ (ok = true → n2 ≤ 200) ∧ TxSo wx wr ok (okS && (xs.take k).all tablesFit) L (LS ++ enc8 ((xs.take k).flatMap tablesW)) (3009008 + k * 5000000)) (fun _ _ i _ => n2 - (intOf i).toNat)
  case atStart => exact ⟨0, ok, L, Nat.zero_le _, Nat.zero_le _, rfl, rfl, rfl, h200.out, Hso.out.of (by rw [List.take_zero, List.all_nil, Bool.and_true]) (by rw [List.take_zero, List.flatMap_nil, enc8_nil, List.append_nil]) (by omega)⟩
  case round =>
    obtain ⟨k, ok, L, hk, hk200, rfl, rfl, rfl, h2n, hso⟩ := hrel
    have q3 : (0 : Int) ≤ (k : Int) := by omega
    have d2 := hso.2.2.2.cell c2 id
    by_cases hlt : k < n2
    · have q1 : (k : Int) < (n2 : Int) := by omega
      cases ok
      case false =>
        have Hso := Lib.hid (TxSo.tabsDone hso hk200 (fun h => by cases h))
        clear hso hlt h2n
        go_wp2_with fail
        refine HK.out _ _ _ _ _ _ _ _ _ _ _ _ _ _ _ _ _ _ _ _ _ _ _ _ _ _ _ _ _ ?_
        exact ⟨_, _, rfl, rfl, Hso.out⟩
      case true =>
        have h2n' := h2n rfl
        obtain ⟨ys, hx⟩ : ∃ ys, xs[k]? = some ys := ⟨_, List.getElem?_eq_getElem (by rw [← Hn2.out]; exact hlt)⟩
        obtain ⟨b, off, u, rfl, hFb, hc, hu⟩ := (Hv2.out.kp hso.2.2.2 (fun _ _ => id)).get_slice hx
        have Hu := Lib.hid hu
        have Hx := Lib.hid hx
        have Hk200 := Lib.hid (show k < 200 by omega)
        have Hlen := Lib.hid hso.2.2.1
        have Hso := Lib.hid hso
        have Hlt := Lib.hid hlt
        have H2 := Lib.hid h2n'
        clear hso hu hx hlt h2n h2n' hk200
        go_wp2_with fail
        refine (lw_tables _ F _ _ Hu.out).mono ?_
        rintro e w2 ⟨L2, rfl, hf, hl, hk2⟩
        have Hf := Lib.hid hf
        have Hl := Lib.hid hl
        have Hk2 := Lib.hid hk2
        have j1 : bs L ++ bs L2 = bs (L ++ L2) := bs_append _ _
        have j2 : (bs L).size + (bs L2).size ≤ 9223372036854775807 := by
          rw [bs_size, bs_size]
          have := Hlen.out
          have := Hk200.out
          omega
        clear hf hl hk2 d2 hc
        go_wp2_with fail
        go_roundw
        case rel => exact ⟨k + 1, _, _, by have := Hlt.out; omega, by have := Hk200.out; omega, by go_num, rfl, rfl, fun _ => H2.out, tabs_round Hx.out Hso.out Hf.out Hl.out Hk2.out⟩
        case measure => simp [intOf]; have := Hlt.out; omega
    · have q1 : ¬ (k : Int) < (n2 : Int) := by omega
      have Hso := Lib.hid (TxSo.tabsDone hso hk200 (fun _ => by rw [← Hn2.out]; omega))
      clear hso hlt h2n
      go_wp2_with fail
      refine HK.out _ _ _ _ _ _ _ _ _ _ _ _ _ _ _ _ _ _ _ _ _ _ _ _ _ _ _ _ _ ?_
      exact ⟨_, _, rfl, rfl, Hso.out⟩
end Go.Proofs.Ytpaldbejnbcokaa
