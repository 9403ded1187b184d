/- Package customhouselaw21's text: its loop over the ways. -/
import Derived.Test.YtpaldbejnbcokaaLawXh
namespace Go.Proofs.Ytpaldbejnbcokaa
open Go.RowKit
set_option linter.unusedSimpArgs false
set_option linter.unusedVariables false

set_option maxRecDepth 100000 in
set_option maxHeartbeats 4000000 in
theorem lw_text_ways (wx w1 : World) (F : Nat → Prop) (xs : List Wy) (A2 : Option Addr) (n2 k2 B : Nat) (ok okS : Bool) (L LS : List UInt8) (Hv2 : Hid (SliceAt wyR wx F xs (.slice A2 n2 k2))) (Hn2 : Hid (n2 = xs.length)) (hb2 : n2 ≤ k2) (hc2 : k2 ≤ 9223372036854775807) (c2 : wx.cell? ⟨B, 3, none⟩ = some (.slice A2 n2 k2)) (Hso : Hid (TxSo wx w1 ok okS L LS 3004008)) (h200 : Hid (ok = true → n2 ≤ 200)) {K : Act → World → Prop} {Q' : Exit → Act → World → Prop} {u0 u2 u3 u6 u7 u8 u9 u11 u12 u13 u14 u15 u16 u17 u18 u19 u20 u21 u22 u23 u24 u25 u26 u27 u28 u29 u30 u31 u32 u33 u34 u35 u36 u37 u38 u39 u40 u41 u42 u43 u44 u45 u46 u47 u48 u49 u50 u51 u52 u53 u54 u55 u56 u57 u58 u59 u60 u61 u62 u63 u64 u65 u66 u67 u68 u69 u70 u71 u72 u73 u74 u75 u76 u77 u78 u79 u80 u81 u82 u83 u84 u85 u86 u87 u88 u89 u90 u91 u92 u93 u94 u95 u96 u97 u98 u99 u100 u101 u102 u103 u104 u105 u106 u107 u108 u109 u110 u111 u112 u113 u114 u115 u116 u117 u118 u119 u120 u121 u122 u123 u124 u125 u126 u127 u128 u129 u130 u131 u132 u133 u134 u135 u136 u137 u138 u139 u140 u141 u142 u143 u144 u145 u146 u147 u148 u149 u150 u151 u152 u153 u154 u155 u156 u157 u158 u159 u160 u161 u162 u163 u164 u165 u166 u167 u168 u169 u170 u171 u172 u173 u174 u175 u176 u177 u178 u179 u180 u181 u182 u183 u184 u185 u186 u187 u188 u189 u190 u191 u192 u193 u194 u195 u196 u197 u198 u199 u200 u201 u202 u203 u204 u205 u206 u207 u208 u209 u210 u211 u212 u213 u214 u215 u216 u217 u218 u219 : Value}
    (HK : Hid (∀ (s v10 v11 v161 v162 v163 v164 v165 v166 v167 v168 v169 v170 v171 v172 v173 v174 v175 v176 v177 v178 v179 v180 v181 v182 v183 v184 v185 v186 v187 : Value) (wr : World), (∃ L, s = .string (bs L) ∧ TxSo wx wr ok okS L (LS ++ enc8 (xs.flatMap Wy.words)) 3009000) → K { tmps := #[u0, .pointer (some ⟨B, 0, none⟩), u2, u3, .bool ok, s, u6, u7, u8, u9, v10, v11, u12, u13, u14, u15, u16, u17, u18, u19, u20, u21, u22, u23, u24, u25, u26, u27, u28, u29, u30, u31, u32, u33, u34, u35, u36, u37, u38, u39, u40, u41, u42, u43, u44, u45, u46, u47, u48, u49, u50, u51, u52, u53, u54, u55, u56, u57, u58, u59, u60, u61, u62, u63, u64, u65, u66, u67, u68, u69, u70, u71, u72, u73, u74, u75, u76, u77, u78, u79, u80, u81, u82, u83, u84, u85, u86, u87, u88, u89, u90, u91, u92, u93, u94, u95, u96, u97, u98, u99, u100, u101, u102, u103, u104, u105, u106, u107, u108, u109, u110, u111, u112, u113, u114, u115, u116, u117, u118, u119, u120, u121, u122, u123, u124, u125, u126, u127, u128, u129, u130, u131, u132, u133, u134, u135, u136, u137, u138, u139, u140, u141, u142, u143, u144, u145, u146, u147, u148, u149, u150, u151, u152, u153, u154, u155, u156, u157, u158, u159, u160, v161, v162, v163, v164, v165, v166, v167, v168, v169, v170, v171, v172, v173, v174, v175, v176, v177, v178, v179, v180, v181, v182, v183, v184, v185, v186, v187, u188, u189, u190, u191, u192, u193, u194, u195, u196, u197, u198, u199, u200, u201, u202, u203, u204, u205, u206, u207, u208, u209, u210, u211, u212, u213, u214, u215, u216, u217, u218, u219], defers := [] } wr)) :
    ∀ cc, secBlock 6 (Try.f13.body.getD .skip) = cc → cc.wp Try.prog (Exit.then K Q') { tmps := #[u0, .pointer (some ⟨B, 0, none⟩), u2, u3, .bool ok, .string (bs L), u6, u7, u8, u9, .int .i64 0, u11, u12, u13, u14, u15, u16, u17, u18, u19, u20, u21, u22, u23, u24, u25, u26, u27, u28, u29, u30, u31, u32, u33, u34, u35, u36, u37, u38, u39, u40, u41, u42, u43, u44, u45, u46, u47, u48, u49, u50, u51, u52, u53, u54, u55, u56, u57, u58, u59, u60, u61, u62, u63, u64, u65, u66, u67, u68, u69, u70, u71, u72, u73, u74, u75, u76, u77, u78, u79, u80, u81, u82, u83, u84, u85, u86, u87, u88, u89, u90, u91, u92, u93, u94, u95, u96, u97, u98, u99, u100, u101, u102, u103, u104, u105, u106, u107, u108, u109, u110, u111, u112, u113, u114, u115, u116, u117, u118, u119, u120, u121, u122, u123, u124, u125, u126, u127, u128, u129, u130, u131, u132, u133, u134, u135, u136, u137, u138, u139, u140, u141, u142, u143, u144, u145, u146, u147, u148, u149, u150, u151, u152, u153, u154, u155, u156, u157, u158, u159, u160, u161, u162, u163, u164, u165, u166, u167, u168, u169, u170, u171, u172, u173, u174, u175, u176, u177, u178, u179, u180, u181, u182, u183, u184, u185, u186, u187, u188, u189, u190, u191, u192, u193, u194, u195, u196, u197, u198, u199, u200, u201, u202, u203, u204, u205, u206, u207, u208, u209, u210, u211, u212, u213, u214, u215, u216, u217, u218, u219], defers := [] } w1 := by
  rintro cc rfl
  show Code.wp _ (Code.block 6 _) _ _ _
  go_wp2_with fail
  cases ok
  case false =>
    go_loopw [5, 10] (fun s i wr => i = .int .i64 0 ∧ s = .string (bs L) ∧ TxSo wx wr false okS L LS 3004008) (fun _ i _ => 0)
    case atStart => exact ⟨rfl, rfl, Hso.out⟩
    case round =>
      obtain ⟨rfl, rfl, hso⟩ := hrel
      have d2 := hso.2.2.2.cell c2 id
      have Hso := Lib.hid hso
      clear hso
      by_cases hz : (0 : Int) < (n2 : Int)
      · go_wp2_with fail
        refine HK.out _ _ _ _ _ _ _ _ _ _ _ _ _ _ _ _ _ _ _ _ _ _ _ _ _ _ _ _ _ _ _ ?_
        exact ⟨_, rfl, Hso.out.1, (fun h => by cases h), Nat.le_trans Hso.out.2.2.1 (by omega), Hso.out.2.2.2⟩
      · go_wp2_with fail
        refine HK.out _ _ _ _ _ _ _ _ _ _ _ _ _ _ _ _ _ _ _ _ _ _ _ _ _ _ _ _ _ _ _ ?_
        exact ⟨_, rfl, Hso.out.1, (fun h => by cases h), Nat.le_trans Hso.out.2.2.1 (by omega), Hso.out.2.2.2⟩
  case true =>
    have h2n := h200.out rfl
    go_loopw [5, 10] (fun s i wr => ∃ (k : Nat) (L : List UInt8), k ≤ n2 ∧ i = .int .i64 k ∧ s = .string (bs L) ∧ TxSo wx wr true okS L (LS ++ enc8 ((xs.take k).flatMap Wy.words)) (3004008 + k * (8 * 3))) (fun _ i _ => n2 - (intOf i).toNat)
    case atStart => exact ⟨0, _, Nat.zero_le _, rfl, rfl, Hso.out.of rfl (by rw [List.take_zero, List.flatMap_nil, enc8_nil, List.append_nil]) (by omega)⟩
    case round =>
      obtain ⟨k, L, hk, rfl, rfl, hso⟩ := hrel
      have q3 : (0 : Int) ≤ (k : Int) := by omega
      have d2 := hso.2.2.2.cell c2 id
      have Hkn := Lib.hid (show k ≤ 200 by omega)
      by_cases hlt : k < n2
      · have q1 : (k : Int) < (n2 : Int) := by omega
        obtain ⟨x, hx⟩ : ∃ x, xs[k]? = some x := ⟨_, List.getElem?_eq_getElem (by rw [← Hn2.out]; exact hlt)⟩
        have Hx := Lib.hid hx
        have hLb := hso.2.2.1
        have g1 : bs L ++ bs (enc8 (Wy.words x)) = bs (L ++ enc8 (Wy.words x)) := bs_append _ _
        have g2 : (bs L).size + (bs (enc8 (Wy.words x))).size ≤ 9223372036854775807 := by
          rw [bs_size, bs_size, enc8_len]
          have := Hkn.out
          have : k * (8 * 3) ≤ 200 * (8 * 3) := Nat.mul_le_mul_right _ this
          simp only [Wy.words, List.length_cons, List.length_nil]
          omega
        have Hso := Lib.hid hso
        obtain ⟨b3, off3, rfl, _, e0, e1, e2⟩ := (Hv2.out.kp hso.2.2.2 (fun _ _ => id)).get_Wy hx
        clear hso hx hlt hLb
        go_wp2_with fail
        refine (lw_nums_lit (wr.alloc (.cells #[.int .i64 (i64of x.fro), .int .i64 (i64of x.to), .int .i64 (i64of x.via)] 91)) x.words _ 3 _ (by rw [alloc_size]) rfl rfl (by simp [Wy.words])).mono ?_
        rintro e w4 ⟨rfl, hk4⟩
        have Hkf := Lib.hid (((Kp.refl No wr).alloc _).trans hk4)
        clear hk4
        go_wp2_with fail
        go_roundw
        case rel => exact ⟨k + 1, _, by omega, by go_num, rfl, TxSo.item (f := Wy.words) (n := 3) (fun _ => rfl) Hso.out Hx.out rfl Hkf.out⟩
        case measure => simp [intOf]; omega
      · have q1 : ¬ (k : Int) < (n2 : Int) := by omega
        have Hso := Lib.hid (TxSo.done (N := 3009000) hso (fun _ => by rw [← Hn2.out]; omega) Hkn.out rfl (by omega))
        clear hso hlt
        go_wp2_with fail
        refine HK.out _ _ _ _ _ _ _ _ _ _ _ _ _ _ _ _ _ _ _ _ _ _ _ _ _ _ _ _ _ _ _ ?_
        exact ⟨_, rfl, Hso.out⟩
end Go.Proofs.Ytpaldbejnbcokaa
