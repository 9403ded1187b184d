/- Package customhouselaw21's text: its first line (whether a list of its own is too long). -/
import Derived.Test.YtpaldbejnbcokaaLawXh
namespace Go.Proofs.Ytpaldbejnbcokaa
open Go.RowKit
set_option linter.unusedSimpArgs false
set_option linter.unusedVariables false

set_option maxRecDepth 100000 in
set_option maxHeartbeats 4000000 in
theorem lw_text_first (wx : World) (c : Cfg) (A1 A2 A3 A4 : Option Addr) (n1 k1 n2 k2 n3 k3 n4 k4 B : Nat) (Hn1 : Hid (n1 = c.ports.length)) (Hn2 : Hid (n2 = c.peers.length)) (Hn3 : Hid (n3 = c.ways.length)) (Hn4 : Hid (n4 = c.tables.length)) (c0 : wx.cell? ⟨B, 0, none⟩ = some (.slice A1 n1 k1)) (c2 : wx.cell? ⟨B, 2, none⟩ = some (.slice A2 n2 k2)) (c3 : wx.cell? ⟨B, 3, none⟩ = some (.slice A3 n3 k3)) (c4 : wx.cell? ⟨B, 4, none⟩ = some (.slice A4 n4 k4)) {K : Act → World → Prop} {Q' : Exit → Act → World → Prop} {u0 u2 u3 u4 u5 u6 u7 u8 u9 u10 u11 u12 u13 u14 u15 u16 u17 u18 u19 u20 u21 u22 u23 u24 u25 u26 u27 u28 u29 u30 u31 u32 u33 u34 u35 u36 u37 u38 u39 u40 u41 u42 u43 u44 u45 u46 u47 u48 u49 u50 u51 u52 u53 u54 u55 u56 u57 u58 u59 u60 u61 u62 u63 u64 u65 u66 u67 u68 u69 u70 u71 u72 u73 u74 u75 u76 u77 u78 u79 u80 u81 u82 u83 u84 u85 u86 u87 u88 u89 u90 u91 u92 u93 u94 u95 u96 u97 u98 u99 u100 u101 u102 u103 u104 u105 u106 u107 u108 u109 u110 u111 u112 u113 u114 u115 u116 u117 u118 u119 u120 u121 u122 u123 u124 u125 u126 u127 u128 u129 u130 u131 u132 u133 u134 u135 u136 u137 u138 u139 u140 u141 u142 u143 u144 u145 u146 u147 u148 u149 u150 u151 u152 u153 u154 u155 u156 u157 u158 u159 u160 u161 u162 u163 u164 u165 u166 u167 u168 u169 u170 u171 u172 u173 u174 u175 u176 u177 u178 u179 u180 u181 u182 u183 u184 u185 u186 u187 u188 u189 u190 u191 u192 u193 u194 u195 u196 u197 u198 u199 u200 u201 u202 u203 u204 u205 u206 u207 u208 u209 u210 u211 u212 u213 u214 u215 u216 u217 u218 u219 : Value}
    (HK : Hid (∀ (o v15 v16 v17 v18 v19 v20 v21 v22 v23 v24 v25 v26 v27 v28 v29 v30 v31 v32 v33 v34 v35 v36 v37 v38 v39 : Value) (wr : World), (o = .bool (ok0 c) ∧ wx = wr) → K { tmps := #[u0, .pointer (some ⟨B, 0, none⟩), u2, u3, o, u5, u6, u7, u8, u9, u10, u11, u12, u13, u14, v15, v16, v17, v18, v19, v20, v21, v22, v23, v24, v25, v26, v27, v28, v29, v30, v31, v32, v33, v34, v35, v36, v37, v38, v39, u40, u41, u42, u43, u44, u45, u46, u47, u48, u49, u50, u51, u52, u53, u54, u55, u56, u57, u58, u59, u60, u61, u62, u63, u64, u65, u66, u67, u68, u69, u70, u71, u72, u73, u74, u75, u76, u77, u78, u79, u80, u81, u82, u83, u84, u85, u86, u87, u88, u89, u90, u91, u92, u93, u94, u95, u96, u97, u98, u99, u100, u101, u102, u103, u104, u105, u106, u107, u108, u109, u110, u111, u112, u113, u114, u115, u116, u117, u118, u119, u120, u121, u122, u123, u124, u125, u126, u127, u128, u129, u130, u131, u132, u133, u134, u135, u136, u137, u138, u139, u140, u141, u142, u143, u144, u145, u146, u147, u148, u149, u150, u151, u152, u153, u154, u155, u156, u157, u158, u159, u160, u161, u162, u163, u164, u165, u166, u167, u168, u169, u170, u171, u172, u173, u174, u175, u176, u177, u178, u179, u180, u181, u182, u183, u184, u185, u186, u187, u188, u189, u190, u191, u192, u193, u194, u195, u196, u197, u198, u199, u200, u201, u202, u203, u204, u205, u206, u207, u208, u209, u210, u211, u212, u213, u214, u215, u216, u217, u218, u219], defers := [] } wr)) :
    ∀ cc, secRegion 1 (Try.f13.body.getD .skip) = cc → cc.wp Try.prog (Exit.then K Q') { tmps := #[u0, .pointer (some ⟨B, 0, none⟩), u2, u3, u4, u5, u6, u7, u8, u9, u10, u11, u12, u13, u14, u15, u16, u17, u18, u19, u20, u21, u22, u23, u24, u25, u26, u27, u28, u29, u30, u31, u32, u33, u34, u35, u36, u37, u38, u39, u40, u41, u42, u43, u44, u45, u46, u47, u48, u49, u50, u51, u52, u53, u54, u55, u56, u57, u58, u59, u60, u61, u62, u63, u64, u65, u66, u67, u68, u69, u70, u71, u72, u73, u74, u75, u76, u77, u78, u79, u80, u81, u82, u83, u84, u85, u86, u87, u88, u89, u90, u91, u92, u93, u94, u95, u96, u97, u98, u99, u100, u101, u102, u103, u104, u105, u106, u107, u108, u109, u110, u111, u112, u113, u114, u115, u116, u117, u118, u119, u120, u121, u122, u123, u124, u125, u126, u127, u128, u129, u130, u131, u132, u133, u134, u135, u136, u137, u138, u139, u140, u141, u142, u143, u144, u145, u146, u147, u148, u149, u150, u151, u152, u153, u154, u155, u156, u157, u158, u159, u160, u161, u162, u163, u164, u165, u166, u167, u168, u169, u170, u171, u172, u173, u174, u175, u176, u177, u178, u179, u180, u181, u182, u183, u184, u185, u186, u187, u188, u189, u190, u191, u192, u193, u194, u195, u196, u197, u198, u199, u200, u201, u202, u203, u204, u205, u206, u207, u208, u209, u210, u211, u212, u213, u214, u215, u216, u217, u218, u219], defers := [] } wx := by
  rintro cc rfl
  show Code.wp _ (Code.region 1 _ _) _ _ _
  by_cases d1 : (n1 : Int) ≤ 200
  · skip
    by_cases d2 : (n2 : Int) ≤ 200
    · skip
      by_cases d3 : (n3 : Int) ≤ 200
      · skip
        by_cases d4 : (n4 : Int) ≤ 200
        · skip
          have Hr := Lib.hid (show ok0 c = true by unfold ok0; rw [← Hn1.out, ← Hn2.out, ← Hn3.out, ← Hn4.out]; simp; omega)
          go_wp2_with fail
          refine HK.out _ _ _ _ _ _ _ _ _ _ _ _ _ _ _ _ _ _ _ _ _ _ _ _ _ _ _ ?_
          exact ⟨by rw [Hr.out], rfl⟩
        · have e4 : decide ((n4 : Int) ≤ 200) = false := by simpa using d4
          have Hr := Lib.hid (show ok0 c = false by unfold ok0; rw [← Hn1.out, ← Hn2.out, ← Hn3.out, ← Hn4.out]; simp; omega)
          go_wp2_with fail
          refine HK.out _ _ _ _ _ _ _ _ _ _ _ _ _ _ _ _ _ _ _ _ _ _ _ _ _ _ _ ?_
          exact ⟨by rw [Hr.out], rfl⟩
      · have e3 : decide ((n3 : Int) ≤ 200) = false := by simpa using d3
        have Hr := Lib.hid (show ok0 c = false by unfold ok0; rw [← Hn1.out, ← Hn2.out, ← Hn3.out, ← Hn4.out]; simp; omega)
        go_wp2_with fail
        refine HK.out _ _ _ _ _ _ _ _ _ _ _ _ _ _ _ _ _ _ _ _ _ _ _ _ _ _ _ ?_
        exact ⟨by rw [Hr.out], rfl⟩
    · have e2 : decide ((n2 : Int) ≤ 200) = false := by simpa using d2
      have Hr := Lib.hid (show ok0 c = false by unfold ok0; rw [← Hn1.out, ← Hn2.out, ← Hn3.out, ← Hn4.out]; simp; omega)
      go_wp2_with fail
      refine HK.out _ _ _ _ _ _ _ _ _ _ _ _ _ _ _ _ _ _ _ _ _ _ _ _ _ _ _ ?_
      exact ⟨by rw [Hr.out], rfl⟩
  · have e1 : decide ((n1 : Int) ≤ 200) = false := by simpa using d1
    have Hr := Lib.hid (show ok0 c = false by unfold ok0; rw [← Hn1.out, ← Hn2.out, ← Hn3.out, ← Hn4.out]; simp; omega)
    go_wp2_with fail
    refine HK.out _ _ _ _ _ _ _ _ _ _ _ _ _ _ _ _ _ _ _ _ _ _ _ _ _ _ _ ?_
    exact ⟨by rw [Hr.out], rfl⟩
end Go.Proofs.Ytpaldbejnbcokaa
