/- Package customhouselaw21's text: its loop over the ports. -/
import Derived.Test.YtpaldbejnbcokaaLawXh
namespace Go.Proofs.Ytpaldbejnbcokaa
open Go.RowKit
set_option linter.unusedSimpArgs false
set_option linter.unusedVariables false

set_option maxRecDepth 100000 in
set_option maxHeartbeats 4000000 in
theorem lw_text_ports (wx w1 : World) (F : Nat → Prop) (c : Cfg) (A1 : Option Addr) (n1 k1 B : Nat) (Hv1 : Hid (SliceAt ptR.slice wx F c.ports (.slice A1 n1 k1))) (Hn1 : Hid (n1 = c.ports.length)) (hb1 : n1 ≤ k1) (hc1 : k1 ≤ 9223372036854775807) (c0 : wx.cell? ⟨B, 0, none⟩ = some (.slice A1 n1 k1)) (hk1 : Kp No wx w1) {K : Act → World → Prop} {Q' : Exit → Act → World → Prop} {u0 u2 u3 u7 u8 u9 u10 u11 u12 u13 u14 u15 u16 u17 u18 u19 u20 u21 u22 u23 u24 u25 u26 u27 u28 u29 u30 u31 u32 u33 u34 u35 u36 u37 u38 u39 u40 u41 u42 u43 u44 u45 u46 u47 u48 u49 u50 u51 u52 u53 u54 u55 u56 u57 u58 u59 u60 u61 u62 u63 u64 u65 u66 u67 u68 u69 u70 u71 u72 u73 u74 u75 u76 u77 u78 u79 u80 u81 u82 u83 u84 u85 u86 u87 u88 u89 u90 u91 u92 u93 u94 u95 u96 u97 u98 u99 u100 u101 u102 u103 u104 u105 u106 u107 u108 u109 u110 u111 u112 u113 u114 u115 u116 u117 u118 u119 u120 u121 u122 u123 u124 u125 u126 u127 u128 u129 u130 u131 u132 u133 u134 u135 u136 u137 u138 u139 u140 u141 u142 u143 u144 u145 u146 u147 u148 u149 u150 u151 u152 u153 u154 u155 u156 u157 u158 u159 u160 u161 u162 u163 u164 u165 u166 u167 u168 u169 u170 u171 u172 u173 u174 u175 u176 u177 u178 u179 u180 u181 u182 u183 u184 u185 u186 u187 u188 u189 u190 u191 u192 u193 u194 u195 u196 u197 u198 u199 u200 u201 u202 u203 u204 u205 u206 u207 u208 u209 u210 u211 u212 u213 u214 u215 u216 u217 u218 u219 : Value}
    (HK : Hid (∀ (o s v6 v7 v8 v46 v47 v48 v49 v50 v51 v52 v53 v54 v55 v56 v57 v58 v59 v60 v61 v62 v63 v64 v65 v66 v67 v68 v69 v70 v71 v72 v73 v74 v75 v76 v77 v78 v79 v80 v81 v82 v83 v84 v85 v86 v87 v88 v89 v90 v91 v92 v93 v94 v95 v96 v97 v98 v99 v100 v101 v102 v103 v104 v105 v106 v107 v108 v109 v110 v111 v112 : Value) (wr : World), (∃ ok L, o = .bool ok ∧ s = .string (bs L) ∧ TxSo wx wr ok (ok0 c && c.ports.all portsFit) L (enc8 (portsW' c.ports)) 3000000) → K { tmps := #[u0, .pointer (some ⟨B, 0, none⟩), u2, u3, o, s, v6, v7, v8, u9, u10, u11, u12, u13, u14, u15, u16, u17, u18, u19, u20, u21, u22, u23, u24, u25, u26, u27, u28, u29, u30, u31, u32, u33, u34, u35, u36, u37, u38, u39, u40, u41, u42, u43, u44, u45, v46, v47, v48, v49, v50, v51, v52, v53, v54, v55, v56, v57, v58, v59, v60, v61, v62, v63, v64, v65, v66, v67, v68, v69, v70, v71, v72, v73, v74, v75, v76, v77, v78, v79, v80, v81, v82, v83, v84, v85, v86, v87, v88, v89, v90, v91, v92, v93, v94, v95, v96, v97, v98, v99, v100, v101, v102, v103, v104, v105, v106, v107, v108, v109, v110, v111, v112, u113, u114, u115, u116, u117, u118, u119, u120, u121, u122, u123, u124, u125, u126, u127, u128, u129, u130, u131, u132, u133, u134, u135, u136, u137, u138, u139, u140, u141, u142, u143, u144, u145, u146, u147, u148, u149, u150, u151, u152, u153, u154, u155, u156, u157, u158, u159, u160, u161, u162, u163, u164, u165, u166, u167, u168, u169, u170, u171, u172, u173, u174, u175, u176, u177, u178, u179, u180, u181, u182, u183, u184, u185, u186, u187, u188, u189, u190, u191, u192, u193, u194, u195, u196, u197, u198, u199, u200, u201, u202, u203, u204, u205, u206, u207, u208, u209, u210, u211, u212, u213, u214, u215, u216, u217, u218, u219], defers := [] } wr)) :
    ∀ cc, secBlock 0 (Try.f13.body.getD .skip) = cc → cc.wp Try.prog (Exit.then K Q') { tmps := #[u0, .pointer (some ⟨B, 0, none⟩), u2, u3, .bool (ok0 c), .string (bs (putF (UInt64.ofNat n1) 8)), .int .i64 0, u7, u8, u9, u10, u11, u12, u13, u14, u15, u16, u17, u18, u19, u20, u21, u22, u23, u24, u25, u26, u27, u28, u29, u30, u31, u32, u33, u34, u35, u36, u37, u38, u39, u40, u41, u42, u43, u44, u45, u46, u47, u48, u49, u50, u51, u52, u53, u54, u55, u56, u57, u58, u59, u60, u61, u62, u63, u64, u65, u66, u67, u68, u69, u70, u71, u72, u73, u74, u75, u76, u77, u78, u79, u80, u81, u82, u83, u84, u85, u86, u87, u88, u89, u90, u91, u92, u93, u94, u95, u96, u97, u98, u99, u100, u101, u102, u103, u104, u105, u106, u107, u108, u109, u110, u111, u112, u113, u114, u115, u116, u117, u118, u119, u120, u121, u122, u123, u124, u125, u126, u127, u128, u129, u130, u131, u132, u133, u134, u135, u136, u137, u138, u139, u140, u141, u142, u143, u144, u145, u146, u147, u148, u149, u150, u151, u152, u153, u154, u155, u156, u157, u158, u159, u160, u161, u162, u163, u164, u165, u166, u167, u168, u169, u170, u171, u172, u173, u174, u175, u176, u177, u178, u179, u180, u181, u182, u183, u184, u185, u186, u187, u188, u189, u190, u191, u192, u193, u194, u195, u196, u197, u198, u199, u200, u201, u202, u203, u204, u205, u206, u207, u208, u209, u210, u211, u212, u213, u214, u215, u216, u217, u218, u219], defers := [] } w1 := by
  rintro cc rfl
  show Code.wp _ (Code.block 0 _) _ _ _
  go_wp2_with fail
  go_loopw [4, 5, 6] (fun o s i wr => ∃ (k : Nat) (ok : Bool) (L : List UInt8), k ≤ n1 ∧ i = .int .i64 k ∧ o = .bool ok ∧ s = .string (bs L) ∧ (ok0 c = false → k = 0) ∧ TxSo wx wr ok (ok0 c && (c.ports.take k).all portsFit) L (enc8 (UInt64.ofNat c.ports.length :: (c.ports.take k).flatMap portsW)) (8 + k * 10000)) (fun _ _ i _ => n1 - (intOf i).toNat)
  case atStart =>
    refine ⟨0, _, _, Nat.zero_le _, rfl, rfl, rfl, fun _ => rfl, ?_, fun _ => ?_, by rw [putF_len]; omega, hk1⟩
    · rw [List.take_zero, List.all_nil, Bool.and_true]
    · rw [List.take_zero, List.flatMap_nil, enc8_cons, enc8_nil, List.append_nil, ← Hn1.out]
  case round =>
    obtain ⟨k, ok, L, hk, rfl, rfl, rfl, hk0, hso⟩ := hrel
    have q3 : (0 : Int) ≤ (k : Int) := by omega
    have d0 := hso.2.2.2.cell c0 id
    have HkW := Lib.hid hso.2.2.2
    by_cases hlt : k < n1
    · have q1 : (k : Int) < (n1 : Int) := by omega
      cases ok
      case false =>
        have Hso := Lib.hid (TxSo.portsDone hso (by rw [← Hn1.out]; exact hk) hk0 (fun h => by cases h))
        clear hso hlt hk0
        go_wp2_with fail
        refine HK.out _ _ _ _ _ _ _ _ _ _ _ _ _ _ _ _ _ _ _ _ _ _ _ _ _ _ _ _ _ _ _ _ _ _ _ _ _ _ _ _ _ _ _ _ _ _ _ _ _ _ _ _ _ _ _ _ _ _ _ _ _ _ _ _ _ _ _ _ _ _ _ _ _ ?_
        exact ⟨_, _, rfl, rfl, Hso.out⟩
      case true =>
        obtain ⟨h200, _, _, _, _⟩ := ok0_lt hso.1
        have hLl := hso.2.2.1
        obtain ⟨ys, hx⟩ : ∃ ys, c.ports[k]? = some ys := ⟨_, List.getElem?_eq_getElem (by rw [← Hn1.out]; exact hlt)⟩
        obtain ⟨b, off, u, rfl, hFb, hc, hu⟩ := (Hv1.out.kp hso.2.2.2 (fun _ _ => id)).get_slice hx
        obtain ⟨A3, m, c3, rfl, Hm, hc5, hc6⟩ := hu.form'
        have Hu := Lib.hid hu
        have Hx := Lib.hid hx
        have Hso := Lib.hid hso
        have Hk200 := Lib.hid (show k < 200 by rw [← Hn1.out] at h200; omega)
        have Hlen := Lib.hid hLl
        have Hc := Lib.hid hc
        have Hd0 := Lib.hid d0
        have j1 : bs L ++ bs (putF (UInt64.ofNat m) 8) = bs (L ++ putF (UInt64.ofNat m) 8) := bs_append _ _
        have j2 : (bs L).size + (bs (putF (UInt64.ofNat m) 8)).size ≤ 9223372036854775807 := by
          rw [bs_size, bs_size, putF_len]
          have := Hk200.out
          omega
        obtain ⟨wo, hwo⟩ : ∃ wo : World, wo = wr := ⟨_, rfl⟩
        subst hwo
        clear hso hu hx hlt h200 hLl hk0
        by_cases hm : m ≤ 200
        · have q6 : (m : Int) ≤ 200 := by omega
          go_wp2_with fail
          refine (lw_count _ m (by omega)).mono ?_
          rintro e w2 ⟨rfl, hk2⟩
          have d0 := hk2.cell Hd0.out id
          have hc := hk2.cell Hc.out id
          have Hk2 := Lib.hid hk2
          clear hk2
          go_wp2_with fail
          clear d0 hc
          go_loopw [5, 7] (fun s i wr => ∃ (j : Nat) (LL : List UInt8), j ≤ m ∧ i = .int .i64 j ∧ s = .string (bs LL) ∧ LL = L ++ (putF (UInt64.ofNat m) 8 ++ enc8 ((ys.take j).flatMap Pt.words)) ∧ Kp No wo wr) (fun _ i _ => m - (intOf i).toNat)
          case atStart => exact ⟨0, _, Nat.zero_le _, rfl, rfl, by rw [List.take_zero, List.flatMap_nil, enc8_nil, List.append_nil], Hk2.out⟩
          case round =>
            obtain ⟨j, LL, hj, rfl, rfl, hLL, hk3⟩ := hrel
            have q4 : (0 : Int) ≤ (j : Int) := by omega
            have d0 := hk3.cell Hd0.out id
            have hc := hk3.cell Hc.out id
            have Hk3 := Lib.hid hk3
            have HLL := Lib.hid hLL
            by_cases hlt : j < m
            · have q5 : (j : Int) < (m : Int) := by omega
              obtain ⟨x, hxj⟩ : ∃ x, ys[j]? = some x := ⟨_, List.getElem?_eq_getElem (by rw [← Hm.out]; exact hlt)⟩
              obtain ⟨b3, off3, rfl, _, e0, e1, e2, e3, e4⟩ := (Hu.out.kp hk3 (fun _ _ => id)).get_Pt hxj
              have Hxj := Lib.hid hxj
              have g1 : bs LL ++ bs (enc8 x.words) = bs (LL ++ enc8 x.words) := bs_append _ _
              have g2 : (bs LL).size + (bs (enc8 x.words)).size ≤ 9223372036854775807 := by
                rw [bs_size, bs_size, enc8_len, hLL, List.length_append, List.length_append, putF_len, flat5, List.length_take]
                have := Hlen.out
                have := Hk200.out
                simp only [Pt.words, List.length_cons, List.length_nil]
                omega
              clear hk3 hLL hxj hlt
              go_wp2_with fail
              refine (lw_nums_lit (wr.alloc (.cells #[.int .i64 (i64of x.kind), .int .i64 (i64of x.tenant), .int .i64 (i64of x.peer), .int .i64 (i64of x.at_), .int .i64 (i64of x.cost)] 88)) x.words _ 5 _ (by rw [alloc_size]) rfl rfl (by simp [Pt.words])).mono ?_
              rintro e w4 ⟨rfl, hk4⟩
              have Hk4 := Lib.hid (Hk3.out.trans (((Kp.refl No wr).alloc _).trans hk4))
              clear hk4 e0 e1 e2 e3 e4 d0 hc
              go_wp2_with fail
              go_roundw
              case rel => exact ⟨j + 1, _, by omega, by go_num, rfl, port_step rfl HLL.out Hxj.out, Hk4.out⟩
              case measure => simp [intOf]; omega
            · have q7 : ¬ (j : Int) < (m : Int) := by omega
              have Hso := Lib.hid (port_round (ok := true) (j := j) (LL := LL) Hx.out Hso.out (by rw [← Hm.out]; exact (decide_eq_true hm).symm) (fun _ => Nat.le_antisymm (by rw [← Hm.out]; exact hj) (by rw [← Hm.out]; omega)) (by omega) (by rw [← Hm.out]; exact HLL.out) Hk3.out)
              clear hk3 hLL hlt
              go_wp2_with fail
              go_roundw
              case rel => exact ⟨k + 1, true, LL, by omega, by go_num, rfl, rfl, (fun h => by have := Hso.out.1; rw [h] at this; cases this), Hso.out⟩
              case measure => simp [intOf]; omega
        · have q6 : ¬ (m : Int) ≤ 200 := by omega
          have q7 : decide ((m : Int) ≤ 200) = false := by simpa using q6
          go_wp2_with fail
          refine (lw_count _ m (by omega)).mono ?_
          rintro e w2 ⟨rfl, hk2⟩
          have d0 := hk2.cell Hd0.out id
          have hc := hk2.cell Hc.out id
          have Hk2 := Lib.hid hk2
          clear hk2
          go_wp2_with fail
          clear d0 hc
          go_loopw [5, 7] (fun s i wr => i = .int .i64 0 ∧ s = .string (bs (L ++ putF (UInt64.ofNat m) 8)) ∧ Kp No wo wr) (fun _ i _ => 0)
          case atStart => exact ⟨rfl, rfl, Hk2.out⟩
          case round =>
            obtain ⟨rfl, rfl, hk3⟩ := hrel
            have d0 := hk3.cell Hd0.out id
            have hc := hk3.cell Hc.out id
            have hok0 : ok0 c = true := by
              have := Hso.out.1.symm
              rw [Bool.and_eq_true] at this
              exact this.1
            have Hok0 := Lib.hid hok0
            have Hso := Lib.hid (port_round (ok := false) (j := 0) (LL := L ++ putF (UInt64.ofNat m) 8) Hx.out Hso.out (by rw [← Hm.out]; exact (decide_eq_false hm).symm) (fun h => by cases h) (by omega) (by rw [List.take_zero, List.flatMap_nil, enc8_nil, List.append_nil, ← Hm.out]) hk3)
            clear hk3 hok0
            go_wp2_with fail
            go_roundw
            case rel => exact ⟨k + 1, false, _, by omega, by go_num, rfl, rfl, (fun h => by rw [Hok0.out] at h; cases h), Hso.out⟩
            case measure => simp [intOf]; omega
    · have Hso := Lib.hid (TxSo.portsDone hso (by rw [← Hn1.out]; exact hk) hk0 (fun _ => by rw [← Hn1.out]; omega))
      have q1 : ¬ (k : Int) < (n1 : Int) := by omega
      clear hso hlt hk0
      go_wp2_with fail
      refine HK.out _ _ _ _ _ _ _ _ _ _ _ _ _ _ _ _ _ _ _ _ _ _ _ _ _ _ _ _ _ _ _ _ _ _ _ _ _ _ _ _ _ _ _ _ _ _ _ _ _ _ _ _ _ _ _ _ _ _ _ _ _ _ _ _ _ _ _ _ _ _ _ _ _ ?_
      exact ⟨_, _, rfl, rfl, Hso.out⟩
end Go.Proofs.Ytpaldbejnbcokaa
